/- package table: which status a message has, and what is to be done. -/
import Derived.Test.YtbgibbbggajgaaaPlanGoesK5
namespace Go.Proofs.Ytbgibbbggajgaaa
set_option linter.all false
open Go.RowKit

theorem decide_any (q qx : Piece) (s : Soc) (A1 A2 A3 A4 : Option Addr) (n1 k1 n2 k2 n3 k3 n4 k4 : Nat) (X1 X2 X3 Y1 Y2 Y3 : Option Addr) (xn1 xk1 xn2 xk2 xn3 xk3 yn1 yk1 yn2 yk2 yn3 yk3 : Nat) (x y : Wsh) (Aw : Option Addr) (nw cw : Nat) (wt : List Int) (ag : Nat) (Al : Option Addr) (nl cl : Nat) (l : List Int) (w : World) (hSP : SocP q s A1 n1 A2 n2 A3 n3 A4 n4) (hm : s.okT) (hq : q.Le (all w)) (hSt : StR qx x y (.agg #[.slice X1 xn1 xk1, .slice X2 xn2 xk2, .slice X3 xn3 xk3, .slice Y1 yn1 yk1, .slice Y2 yn2 yk2, .slice Y3 yn3 yk3])) (hqx : qx.Le (all w)) (hw : SlS (all w) 1 Aw nw (intCells wt)) (hnw : nw = wt.length) (hag : ag < 2) (hl : SlS (all w) 1 Al nl (u32Cells l)) (hnl : nl = l.length) (hnl2 : nl ≤ 1000000) (hu : U32s l) :
    Calls Try.prog 37 #[.agg #[.slice A1 n1 k1, .slice A2 n2 k2, .slice A3 n3 k3, .slice A4 n4 k4], .agg #[.slice X1 xn1 xk1, .slice X2 xn2 xk2, .slice X3 xn3 xk3, .slice Y1 yn1 yk1, .slice Y2 yn2 yk2, .slice Y3 yn3 yk3], .slice Aw nw cw, .int .i64 (ag : Int), .slice Al nl cl] w (Rt (actV (decF s x y wt ag l)) w) := by
  generalize hrd : readF s l = rd
  obtain ⟨st, k, id⟩ := rd
  refine XK.enter (vs := [.agg #[.slice A1 n1 k1, .slice A2 n2 k2, .slice A3 n3 k3, .slice A4 n4 k4], .agg #[.slice X1 xn1 xk1, .slice X2 xn2 xk2, .slice X3 xn3 xk3, .slice Y1 yn1 yk1, .slice Y2 yn2 yk2, .slice Y3 yn3 yk3], .slice Aw nw cw, .int .i64 (ag : Int), .slice Al nl cl]) Try.func37 rfl Try.ntmps37 (by simp) ?_
  refine XK.seq ?_
  refine XK.piece qx (by simp) hqx ?_
  refine XK.piece q (by simp) hq ?_

  refine XK.region ?_
  refine xk_box rfl (by decide) fun g1 => ?_
  refine xk_box rfl (by decide) fun g2 => ?_
  refine xk_assign rfl (by decide) ?_
  refine xk_alloc (cs := [.int .u8 0, .int .i64 0]) (zeroB_of (by kernel_rfl)) (by decide) fun g3 => ?_
  refine XK.nilN ?_
  refine XK.seq ?_
  refine XK.cutB 25 (False) ?_ ?_
  · skip

    refine XK.region ?_
    refine xk_move rfl (by decide) ?_
    refine xk_lss rfl rfl (by decide) ?_
    refine xk_move rfl (by decide) ?_
    (first | refine xk_split (t := 17) rfl (fun hg => ?_) (fun hg => ?_) | refine xk_splitB (t := 17) rfl (fun hg => ?_) (fun hg => ?_))
    ·
      refine xk_guardF rfl rfl rfl (by decide) ?_
      refine xk_guardF rfl rfl rfl (by decide) ?_
      (first | refine xk_pickT rfl rfl (by decide) ?_ | refine xk_pickF rfl rfl (by decide) ?_)
      refine xk_move rfl (by decide) ?_
      refine xk_guardF rfl rfl rfl (by decide) ?_
      refine xk_guardF rfl rfl rfl (by decide) ?_
      refine xk_guardF rfl rfl rfl (by decide) ?_
      (first | refine xk_pickT rfl rfl (by decide) ?_ | refine xk_pickF rfl rfl (by decide) ?_)
      refine XK.nilN ?_
      exact XK.meetB (by repeat (first | exact trivial | refine ⟨rfl, ?_⟩)) (by first | (refine get_iff rfl ?_; omega) | (refine get_iff rfl ?_; simp_all; done) | (refine get_false rfl ?_; first | omega | (simp_all; done)) | (refine get_true rfl ?_; first | omega | (simp_all; done)) | (refine get_bool rfl ?_; simp_all; done) | (refine get_iff rfl ⟨fun hh => ?_, fun hh => ?_⟩ <;> first | omega | (simp_all; done) | (simp_all; omega)) | (exfalso; omega))
    ·
      refine xk_guardT rfl rfl ?_; refine xk_move rfl (by decide) ?_
      refine xk_guardT rfl rfl ?_; refine xk_geq rfl rfl (by decide) ?_
      (first | refine xk_pickT rfl rfl (by decide) ?_ | refine xk_pickF rfl rfl (by decide) ?_)
      refine xk_move rfl (by decide) ?_
      (first | refine xk_split (t := 21) rfl (fun hg => ?_) (fun hg => ?_) | refine xk_splitB (t := 21) rfl (fun hg => ?_) (fun hg => ?_))
      ·
        refine xk_guardF rfl rfl rfl (by decide) ?_
        refine xk_guardF rfl rfl rfl (by decide) ?_
        refine xk_guardF rfl rfl rfl (by decide) ?_
        (first | refine xk_pickT rfl rfl (by decide) ?_ | refine xk_pickF rfl rfl (by decide) ?_)
        refine XK.nilN ?_
        exact XK.meetB (by repeat (first | exact trivial | refine ⟨rfl, ?_⟩)) (by first | (refine get_iff rfl ?_; omega) | (refine get_iff rfl ?_; simp_all; done) | (refine get_false rfl ?_; first | omega | (simp_all; done)) | (refine get_true rfl ?_; first | omega | (simp_all; done)) | (refine get_bool rfl ?_; simp_all; done) | (refine get_iff rfl ⟨fun hh => ?_, fun hh => ?_⟩ <;> first | omega | (simp_all; done) | (simp_all; omega)) | (exfalso; omega))
      ·
        refine xk_guardT rfl rfl ?_; refine xk_ldN 4 rfl ?_
        refine xk_guardT rfl rfl ?_; refine xk_callR (f := 43) (fi := []) (ca := []) (by kernel_rfl) rfl rfl (by decide) (v0 := .int .i64 0) (fun w1 st => (checkS_any s A1 A2 A3 A4 n1 k1 n2 k2 n3 k3 n4 k4 w1 (hSP.W (st.le (by simp)) hm.small)).mono fun _ _ h => Rt.conv h (by rw [hm.chk])) ?_
        refine xk_guardT rfl rfl ?_; refine xk_neq rfl rfl (by decide) ?_
        (first | refine xk_pickT rfl rfl (by decide) ?_ | refine xk_pickF rfl rfl (by decide) ?_)
        refine XK.nilN ?_
        exact XK.meetB (by repeat (first | exact trivial | refine ⟨rfl, ?_⟩)) (by first | (refine get_iff rfl ?_; omega) | (refine get_iff rfl ?_; simp_all; done) | (refine get_false rfl ?_; first | omega | (simp_all; done)) | (refine get_true rfl ?_; first | omega | (simp_all; done)) | (refine get_bool rfl ?_; simp_all; done) | (refine get_iff rfl ⟨fun hh => ?_, fun hh => ?_⟩ <;> first | omega | (simp_all; done) | (simp_all; omega)) | (exfalso; omega))
  refine XK.cond rfl (fun h => by simp at h) (fun h => ?_)

  ·
    refine XK.skip ?_
    refine XK.norm ?_
    refine XK.seq ?_

    refine XK.region ?_
    refine xk_ldN 4 rfl ?_
    refine xk_move rfl (by decide) ?_
    refine xk_callR (f := 56) (fi := []) (ca := []) (by kernel_rfl) rfl rfl (by decide) (v0 := .tuple #[.int .i32 st, .agg #[.int .u8 k, .int .i64 id]]) (fun w1 st => (read_any s A1 A2 A3 A4 n1 k1 n2 k2 n3 k3 n4 k4 Al nl cl l w1 (hSP.W (st.le (by simp)) hm.small) (hl.le (st.le (by simp))) hnl hnl2 hu).mono fun _ _ h => Rt.conv h (by rw [hrd]; rfl)) ?_
    refine xk_move rfl (by decide) ?_
    refine xk_extract rfl rfl (by decide) ?_
    refine xk_extract rfl rfl (by decide) ?_
    refine xk_alloc (cs := [.int .u8 0, .int .i64 0]) (zeroB_of (by kernel_rfl)) (by decide) fun g4 => ?_
    refine xk_assign rfl (by decide) ?_
    (first | (refine xk_storeN 0 rfl rfl rfl (by kernel_rfl) (by simp [Value.cells, Value.oneCell']) (by simp [Value.cells]) ?_) | (refine xk_storeN 1 rfl rfl rfl (by kernel_rfl) (by simp [Value.cells, Value.oneCell']) (by simp [Value.cells]) ?_) | (refine xk_storeN 2 rfl rfl rfl (by kernel_rfl) (by simp [Value.cells, Value.oneCell']) (by simp [Value.cells]) ?_) | (refine xk_storeN 3 rfl rfl rfl (by kernel_rfl) (by simp [Value.cells, Value.oneCell']) (by simp [Value.cells]) ?_) | (refine xk_storeN 4 rfl rfl rfl (by kernel_rfl) (by simp [Value.cells, Value.oneCell']) (by simp [Value.cells]) ?_) | (refine xk_storeN 5 rfl rfl rfl (by kernel_rfl) (by simp [Value.cells, Value.oneCell']) (by simp [Value.cells]) ?_) | (refine xk_storeN 6 rfl rfl rfl (by kernel_rfl) (by simp [Value.cells, Value.oneCell']) (by simp [Value.cells]) ?_) | (refine xk_storeN 7 rfl rfl rfl (by kernel_rfl) (by simp [Value.cells, Value.oneCell']) (by simp [Value.cells]) ?_) | (refine xk_storeN 8 rfl rfl rfl (by kernel_rfl) (by simp [Value.cells, Value.oneCell']) (by simp [Value.cells]) ?_)); simp only [putN, Value.cells, List.set, List.take, List.drop, List.nil_append, List.append_nil, List.length_cons, List.length_nil, List.cons_append, Nat.reduceAdd]
    refine XK.nilN ?_
    refine XK.seq ?_
    refine XK.cutB 51 (st ≠ 0 ∨ k = 0 ∨ wishF (if ag = 0 then x else y) k id = decide (onB k)) ?_ ?_
    · skip

      refine XK.draw 16 (by kernel_rfl) (by kernel_rfl) ?_
      refine XA.dA 0 rfl rfl rfl (does_move rfl) ?_
      refine XA.dA 1 rfl rfl rfl (does_neq rfl rfl) ?_
      refine XA.dA 2 rfl rfl rfl (does_move rfl) ?_
      (first | refine XA.split (t := 35) rfl (fun hg => ?_) (fun hg => ?_) | refine XA.splitB (t := 35) rfl (fun hg => ?_) (fun hg => ?_))
      ·
        refine XA.dF 3 rfl rfl rfl rfl ?_
        refine XA.dF 4 rfl rfl rfl rfl ?_
        refine XA.dF 5 rfl rfl rfl rfl ?_
        refine XA.dA 6 rfl rfl rfl (by first | exact does_pickT rfl rfl | exact does_pickF rfl rfl) ?_
        refine XA.dA 7 rfl rfl rfl (does_move rfl) ?_
        refine XA.dF 8 rfl rfl rfl rfl ?_
        refine XA.dF 9 rfl rfl rfl rfl ?_
        refine XA.dF 10 rfl rfl rfl rfl ?_
        refine XA.dF 11 rfl rfl rfl rfl ?_
        refine XA.dF 12 rfl rfl rfl rfl ?_
        refine XA.dF 13 rfl rfl rfl rfl ?_
        refine XA.dF 14 rfl rfl rfl rfl ?_
        refine XA.dF 15 rfl rfl rfl rfl ?_
        refine XA.next 16 rfl (by kernel_rfl) ?_
        refine xk_guardF rfl rfl rfl (by decide) ?_
        refine XA.bt ?_
        refine XA.next 17 rfl (by kernel_rfl) ?_
        refine xk_guardF rfl rfl rfl (by decide) ?_
        refine XA.bt ?_
        refine XA.next 18 rfl (by kernel_rfl) ?_
        (first | refine xk_pickT rfl rfl (by decide) ?_ | refine xk_pickF rfl rfl (by decide) ?_)
        refine XA.bt ?_
        refine XA.done (by kernel_rfl) ?_
        refine XK.norm ?_
        exact XK.meetB (by repeat (first | exact trivial | refine ⟨rfl, ?_⟩)) (by first | (refine get_iff rfl ?_; omega) | (refine get_iff rfl ?_; simp_all; done) | (refine get_false rfl ?_; first | omega | (simp_all; done)) | (refine get_true rfl ?_; first | omega | (simp_all; done)) | (refine get_bool rfl ?_; simp_all; done) | (refine get_iff rfl ⟨fun hh => ?_, fun hh => ?_⟩ <;> first | omega | (simp_all; done) | (simp_all; omega)) | (exfalso; omega))
      ·
        refine XA.dT 3 rfl rfl rfl (does_field (off := 0) (by kernel_rfl) rfl) ?_
        refine XA.dT 4 rfl rfl rfl (does_ld rfl) ?_
        refine XA.dT 5 rfl rfl rfl (does_eql rfl rfl) ?_
        refine XA.dA 6 rfl rfl rfl (by first | exact does_pickT rfl rfl | exact does_pickF rfl rfl) ?_
        refine XA.dA 7 rfl rfl rfl (does_move rfl) ?_
        (first | refine XA.split (t := 40) rfl (fun hg => ?_) (fun hg => ?_) | refine XA.splitB (t := 40) rfl (fun hg => ?_) (fun hg => ?_))
        ·
          refine XA.dF 8 rfl rfl rfl rfl ?_
          refine XA.dF 9 rfl rfl rfl rfl ?_
          refine XA.dF 10 rfl rfl rfl rfl ?_
          refine XA.dF 11 rfl rfl rfl rfl ?_
          refine XA.dF 12 rfl rfl rfl rfl ?_
          refine XA.dF 13 rfl rfl rfl rfl ?_
          refine XA.dF 14 rfl rfl rfl rfl ?_
          refine XA.dF 15 rfl rfl rfl rfl ?_
          refine XA.next 16 rfl (by kernel_rfl) ?_
          refine xk_guardF rfl rfl rfl (by decide) ?_
          refine XA.bt ?_
          refine XA.next 17 rfl (by kernel_rfl) ?_
          refine xk_guardF rfl rfl rfl (by decide) ?_
          refine XA.bt ?_
          refine XA.next 18 rfl (by kernel_rfl) ?_
          (first | refine xk_pickT rfl rfl (by decide) ?_ | refine xk_pickF rfl rfl (by decide) ?_)
          refine XA.bt ?_
          refine XA.done (by kernel_rfl) ?_
          refine XK.norm ?_
          exact XK.meetB (by repeat (first | exact trivial | refine ⟨rfl, ?_⟩)) (by first | (refine get_iff rfl ?_; omega) | (refine get_iff rfl ?_; simp_all; done) | (refine get_false rfl ?_; first | omega | (simp_all; done)) | (refine get_true rfl ?_; first | omega | (simp_all; done)) | (refine get_bool rfl ?_; simp_all; done) | (refine get_iff rfl ⟨fun hh => ?_, fun hh => ?_⟩ <;> first | omega | (simp_all; done) | (simp_all; omega)) | (exfalso; omega))
        ·
          refine XA.dT 8 rfl rfl rfl (does_move rfl) ?_
          refine XA.dT 9 rfl rfl rfl (does_field (off := 0) (by kernel_rfl) rfl) ?_
          refine XA.dT 10 rfl rfl rfl (does_ld rfl) ?_
          refine XA.dT 11 rfl rfl rfl (does_field (off := 1) (by kernel_rfl) rfl) ?_
          refine XA.dT 12 rfl rfl rfl (does_ld rfl) ?_
          refine XA.dT 14 rfl rfl rfl (does_field (off := 0) (by kernel_rfl) rfl) ?_
          refine XA.dT 15 rfl rfl rfl (does_ld rfl) ?_
          refine XA.next 13 rfl (by kernel_rfl) ?_
          refine xk_guardT rfl rfl ?_; refine xk_callR (f := 57) (fi := []) (ca := []) (by kernel_rfl) rfl rfl (by decide) (fun w1 st => wishes_any g2 ag (if ag = 0 then x else y) k id w1 hag (StR.box hSt (st.le (by simp)) (st.box (i := 2) rfl) ag hag)) ?_
          refine XA.bk ?_
          refine XA.next 16 rfl (by kernel_rfl) ?_
          refine xk_guardT rfl rfl ?_; refine xk_callR (f := 58) (fi := []) (ca := []) (by kernel_rfl) rfl rfl (by decide) (fun w1 st => on_any k w1) ?_
          refine XA.bt ?_
          refine XA.next 17 rfl (by kernel_rfl) ?_
          refine xk_guardT rfl rfl ?_; refine xk_eqlB (by kernel_rfl) rfl rfl (by decide) ?_
          refine XA.bt ?_
          refine XA.next 18 rfl (by kernel_rfl) ?_
          (first | refine xk_pickT rfl rfl (by decide) ?_ | refine xk_pickF rfl rfl (by decide) ?_)
          refine XA.bt ?_
          refine XA.done (by kernel_rfl) ?_
          refine XK.norm ?_
          exact XK.meetB (by repeat (first | exact trivial | refine ⟨rfl, ?_⟩)) (by first | (refine get_iff rfl ?_; omega) | (refine get_iff rfl ?_; simp_all; done) | (refine get_false rfl ?_; first | omega | (simp_all; done)) | (refine get_true rfl ?_; first | omega | (simp_all; done)) | (refine get_bool rfl ?_; simp_all; done) | (refine get_iff rfl ⟨fun hh => ?_, fun hh => ?_⟩ <;> first | omega | (simp_all; done) | (simp_all; omega)) | (exfalso; omega))
    refine XK.if_ rfl (fun h4 => ?_) (fun h4 => ?_)
    ·
      refine XK.seq ?_

      refine XK.region ?_
      refine xk_move rfl (by decide) ?_
      refine xk_buildS (zs := [.int .u8 0, .int .i64 0]) (L := [(0, 1), (1, 1)]) (zeroB_of (by kernel_rfl)) (by kernel_rfl) rfl (by simp [fillL, setN, Value.cells]; rfl) (by decide) ?_
      refine xk_assign rfl (by decide) ?_
      (first | (refine xk_storeN 0 rfl rfl rfl (by kernel_rfl) (by simp [Value.cells, Value.oneCell']) (by simp [Value.cells]) ?_) | (refine xk_storeN 1 rfl rfl rfl (by kernel_rfl) (by simp [Value.cells, Value.oneCell']) (by simp [Value.cells]) ?_) | (refine xk_storeN 2 rfl rfl rfl (by kernel_rfl) (by simp [Value.cells, Value.oneCell']) (by simp [Value.cells]) ?_) | (refine xk_storeN 3 rfl rfl rfl (by kernel_rfl) (by simp [Value.cells, Value.oneCell']) (by simp [Value.cells]) ?_) | (refine xk_storeN 4 rfl rfl rfl (by kernel_rfl) (by simp [Value.cells, Value.oneCell']) (by simp [Value.cells]) ?_) | (refine xk_storeN 5 rfl rfl rfl (by kernel_rfl) (by simp [Value.cells, Value.oneCell']) (by simp [Value.cells]) ?_) | (refine xk_storeN 6 rfl rfl rfl (by kernel_rfl) (by simp [Value.cells, Value.oneCell']) (by simp [Value.cells]) ?_) | (refine xk_storeN 7 rfl rfl rfl (by kernel_rfl) (by simp [Value.cells, Value.oneCell']) (by simp [Value.cells]) ?_) | (refine xk_storeN 8 rfl rfl rfl (by kernel_rfl) (by simp [Value.cells, Value.oneCell']) (by simp [Value.cells]) ?_)); simp only [putN, Value.cells, List.set, List.take, List.drop, List.nil_append, List.append_nil, List.length_cons, List.length_nil, List.cons_append, Nat.reduceAdd]
      refine XK.nilN ?_
      refine XK.ret ?_
      refine XK.norm ?_
      exact XK.retTC (n := 2) (vs := [.int .u8 0, .int .i64 0]) rfl (by kernel_rfl) rfl rfl (by first | assumption | exact RdN.whole 0 rfl | exact RdN.whole 1 rfl | exact RdN.whole 2 rfl | exact RdN.whole 3 rfl | exact RdN.whole 4 rfl | exact RdN.whole 5 rfl | exact RdN.whole 6 rfl | exact RdN.whole 7 rfl | exact RdN.whole 8 rfl | exact RdN.roc (by simp) (by assumption)) rfl fun w9 st => ⟨by
        rw [decF, hrd]; dsimp only; rw [if_pos h4]; rfl, st.below (by simp)⟩
    ·
      have hst0 : st = 0 := Decidable.byContradiction fun h => h4 (.inl h)
      refine XK.skip ?_
      refine XK.norm ?_
      refine XK.seq ?_
      refine XK.seq ?_

      refine XK.region ?_
      refine xk_field (off := 0) (by kernel_rfl) rfl (by decide) ?_
      refine xk_ld rfl ?_
      refine xk_callR (f := 58) (fi := []) (ca := []) (by kernel_rfl) rfl rfl (by decide) (fun w1 st => on_any k w1) ?_
      refine XK.nilN ?_
      refine XK.if_ rfl (fun h6 => ?_) (fun h6 => ?_)
      ·
        refine XK.seq ?_
        refine XK.seq ?_

        refine XK.region ?_
        refine xk_field (off := 0) (by kernel_rfl) rfl (by decide) ?_
        refine xk_ld rfl ?_
        refine xk_eql rfl rfl (by decide) ?_
        refine XK.nilN ?_
        refine XK.if_ rfl (fun h7 => ?_) (fun h7 => ?_)
        ·
          refine XK.seq ?_
          subst h7
          have hok := readF_ok (s := s) hu
          rw [hrd] at hok
          dsimp only at hok
          rcases hok with hok | ⟨_, _, hid0, hid1, _⟩
          · exact absurd hok.1 (by omega)
          have hid2 : id.toNat < s.domains.length := by rw [show numF s (kPro 117) = s.domains.length from rfl] at hid1; omega
          obtain ⟨d, hd⟩ : ∃ d, s.domains[id.toNat]? = some d := ⟨_, List.getElem?_eq_getElem hid2⟩
          obtain ⟨rfl, rfl, rfl, rfl⟩ := hSP.len
          obtain ⟨bD, oD, rD, rfl, hzD, _, rfl, hcD⟩ := hSP.dom.rowP hd
          have hab : (s.domains[id.toNat]?).any (fun d => decide (d.above ≠ -1) && !wishedF x y 117 d.above) = (decide (d.above ≠ -1) && !wishedF x y 117 d.above) := by rw [hd]; rfl

          refine XK.region ?_
          refine xk_field (off := 1) (by kernel_rfl) rfl (by decide) ?_
          refine xk_ld rfl ?_
          refine xk_field (off := 1) (by kernel_rfl) rfl (by decide) ?_
          refine xk_ld rfl ?_
          refine xk_at id.toNat (oD + id.toNat * 3) (el := 61) (sz := 3) (by kernel_rfl) (by kernel_rfl) rfl rfl (by omega) (by omega) (by omega) (by decide) ?_
          refine xk_field (off := 0) (by kernel_rfl) rfl (by decide) ?_
          refine xk_load (by kernel_rfl) rfl (Rd.ro (p := q) (by simp) hzD (hcD 0 _ rfl)) (by decide) ?_
          refine xk_assign rfl (by decide) ?_
          refine XK.nilN ?_
          refine XK.cutB 73 (d.above ≠ -1 ∧ wishedF x y 117 d.above = false) ?_ ?_
          · skip

            refine XK.region ?_
            refine xk_move rfl (by decide) ?_
            refine xk_neq rfl rfl (by decide) ?_
            refine xk_move rfl (by decide) ?_
            (first | refine xk_split (t := 69) rfl (fun hg => ?_) (fun hg => ?_) | refine xk_splitB (t := 69) rfl (fun hg => ?_) (fun hg => ?_))
            ·
              refine xk_guardT rfl rfl ?_; refine xk_move rfl (by decide) ?_
              refine xk_guardT rfl rfl ?_; refine xk_callR (f := 59) (fi := []) (ca := []) (by kernel_rfl) rfl rfl (by decide) (fun w1 st => wished_any g2 x y 117 d.above w1 (StR.box hSt (st.le (by simp)) (st.box (i := 2) rfl))) ?_
              refine xk_guardT rfl rfl ?_; (first | refine xk_notD rfl (by decide) ?_ | refine xk_not rfl (by decide) ?_)
              (first | refine xk_pickT rfl rfl (by decide) ?_ | refine xk_pickF rfl rfl (by decide) ?_)
              refine XK.nilN ?_
              exact XK.meetB (by repeat (first | exact trivial | refine ⟨rfl, ?_⟩)) (by first | (refine get_iff rfl ?_; omega) | (refine get_iff rfl ?_; simp_all; done) | (refine get_false rfl ?_; first | omega | (simp_all; done)) | (refine get_true rfl ?_; first | omega | (simp_all; done)) | (refine get_bool rfl ?_; simp_all; done) | (refine get_iff rfl ⟨fun hh => ?_, fun hh => ?_⟩ <;> first | omega | (simp_all; done) | (simp_all; omega)) | (exfalso; omega))
            ·
              refine xk_guardF rfl rfl rfl (by decide) ?_
              refine xk_guardF rfl rfl rfl (by decide) ?_
              refine xk_guardF rfl rfl rfl (by decide) ?_
              (first | refine xk_pickT rfl rfl (by decide) ?_ | refine xk_pickF rfl rfl (by decide) ?_)
              refine XK.nilN ?_
              exact XK.meetB (by repeat (first | exact trivial | refine ⟨rfl, ?_⟩)) (by first | (refine get_iff rfl ?_; omega) | (refine get_iff rfl ?_; simp_all; done) | (refine get_false rfl ?_; first | omega | (simp_all; done)) | (refine get_true rfl ?_; first | omega | (simp_all; done)) | (refine get_bool rfl ?_; simp_all; done) | (refine get_iff rfl ⟨fun hh => ?_, fun hh => ?_⟩ <;> first | omega | (simp_all; done) | (simp_all; omega)) | (exfalso; omega))
          refine XK.if_ rfl (fun h9 => ?_) (fun h9 => ?_)
          ·
            refine XK.seq ?_

            refine XK.region ?_
            refine xk_buildS (zs := [.int .u8 0, .int .i64 0]) (L := [(0, 1), (1, 1)]) (zeroB_of (by kernel_rfl)) (by kernel_rfl) rfl (by simp [fillL, setN, Value.cells]; rfl) (by decide) ?_
            refine xk_assign rfl (by decide) ?_
            (first | (refine xk_storeN 0 rfl rfl rfl (by kernel_rfl) (by simp [Value.cells, Value.oneCell']) (by simp [Value.cells]) ?_) | (refine xk_storeN 1 rfl rfl rfl (by kernel_rfl) (by simp [Value.cells, Value.oneCell']) (by simp [Value.cells]) ?_) | (refine xk_storeN 2 rfl rfl rfl (by kernel_rfl) (by simp [Value.cells, Value.oneCell']) (by simp [Value.cells]) ?_) | (refine xk_storeN 3 rfl rfl rfl (by kernel_rfl) (by simp [Value.cells, Value.oneCell']) (by simp [Value.cells]) ?_) | (refine xk_storeN 4 rfl rfl rfl (by kernel_rfl) (by simp [Value.cells, Value.oneCell']) (by simp [Value.cells]) ?_) | (refine xk_storeN 5 rfl rfl rfl (by kernel_rfl) (by simp [Value.cells, Value.oneCell']) (by simp [Value.cells]) ?_) | (refine xk_storeN 6 rfl rfl rfl (by kernel_rfl) (by simp [Value.cells, Value.oneCell']) (by simp [Value.cells]) ?_) | (refine xk_storeN 7 rfl rfl rfl (by kernel_rfl) (by simp [Value.cells, Value.oneCell']) (by simp [Value.cells]) ?_) | (refine xk_storeN 8 rfl rfl rfl (by kernel_rfl) (by simp [Value.cells, Value.oneCell']) (by simp [Value.cells]) ?_)); simp only [putN, Value.cells, List.set, List.take, List.drop, List.nil_append, List.append_nil, List.length_cons, List.length_nil, List.cons_append, Nat.reduceAdd]
            refine XK.nilN ?_
            refine XK.ret ?_
            refine XK.norm ?_
            exact XK.retTC (n := 2) (vs := [.int .u8 0, .int .i64 0]) rfl (by kernel_rfl) rfl rfl (by first | assumption | exact RdN.whole 0 rfl | exact RdN.whole 1 rfl | exact RdN.whole 2 rfl | exact RdN.whole 3 rfl | exact RdN.whole 4 rfl | exact RdN.whole 5 rfl | exact RdN.whole 6 rfl | exact RdN.whole 7 rfl | exact RdN.whole 8 rfl | exact RdN.roc (by simp) (by assumption)) rfl fun w9 st => ⟨by
              rw [decF, hrd]; dsimp only; rw [if_neg h4, if_pos h6, if_pos ⟨rfl, by rw [hab]; simp [h9.1, h9.2]⟩]; rfl, st.below (by simp)⟩
          ·
            refine XK.skip ?_
            refine XK.norm ?_
            refine XK.seq ?_
            subst hst0

            refine XK.draw 2 (by kernel_rfl) (by kernel_rfl) ?_
            refine XA.dA 0 rfl rfl rfl (does_ldN 2 rfl) ?_
            refine XA.dA 1 rfl rfl rfl (does_assign rfl) ?_
            refine XA.next 2 rfl (by kernel_rfl) ?_
            (first | (refine xk_storeN 0 rfl rfl rfl (by kernel_rfl) (by simp [Value.cells, Value.oneCell']) (by simp [Value.cells]) ?_) | (refine xk_storeN 1 rfl rfl rfl (by kernel_rfl) (by simp [Value.cells, Value.oneCell']) (by simp [Value.cells]) ?_) | (refine xk_storeN 2 rfl rfl rfl (by kernel_rfl) (by simp [Value.cells, Value.oneCell']) (by simp [Value.cells]) ?_) | (refine xk_storeN 3 rfl rfl rfl (by kernel_rfl) (by simp [Value.cells, Value.oneCell']) (by simp [Value.cells]) ?_) | (refine xk_storeN 4 rfl rfl rfl (by kernel_rfl) (by simp [Value.cells, Value.oneCell']) (by simp [Value.cells]) ?_) | (refine xk_storeN 5 rfl rfl rfl (by kernel_rfl) (by simp [Value.cells, Value.oneCell']) (by simp [Value.cells]) ?_) | (refine xk_storeN 6 rfl rfl rfl (by kernel_rfl) (by simp [Value.cells, Value.oneCell']) (by simp [Value.cells]) ?_) | (refine xk_storeN 7 rfl rfl rfl (by kernel_rfl) (by simp [Value.cells, Value.oneCell']) (by simp [Value.cells]) ?_) | (refine xk_storeN 8 rfl rfl rfl (by kernel_rfl) (by simp [Value.cells, Value.oneCell']) (by simp [Value.cells]) ?_)); simp only [putN, Value.cells, List.set, List.take, List.drop, List.nil_append, List.append_nil, List.length_cons, List.length_nil, List.cons_append, Nat.reduceAdd]
            refine XA.bt ?_
            refine XA.done (by kernel_rfl) ?_
            refine XK.norm ?_
            refine XK.ret ?_
            refine XK.norm ?_
            exact XK.retTC (n := 2) (vs := [.int .u8 117, .int .i64 id]) rfl (by kernel_rfl) rfl rfl (by first | assumption | exact RdN.whole 0 rfl | exact RdN.whole 1 rfl | exact RdN.whole 2 rfl | exact RdN.whole 3 rfl | exact RdN.whole 4 rfl | exact RdN.whole 5 rfl | exact RdN.whole 6 rfl | exact RdN.whole 7 rfl | exact RdN.whole 8 rfl | exact RdN.roc (by simp) (by assumption)) rfl fun w9 st => ⟨by
              rw [decF, hrd]; dsimp only; rw [if_neg h4, if_pos h6, if_neg (fun hh => h9 (by have h' := hh.2; rw [hab] at h'; simpa using h'))]; rfl, st.below (by simp)⟩
        ·
          refine XK.skip ?_
          refine XK.norm ?_
          refine XK.seq ?_
          subst hst0

          refine XK.draw 2 (by kernel_rfl) (by kernel_rfl) ?_
          refine XA.dA 0 rfl rfl rfl (does_ldN 2 rfl) ?_
          refine XA.dA 1 rfl rfl rfl (does_assign rfl) ?_
          refine XA.next 2 rfl (by kernel_rfl) ?_
          (first | (refine xk_storeN 0 rfl rfl rfl (by kernel_rfl) (by simp [Value.cells, Value.oneCell']) (by simp [Value.cells]) ?_) | (refine xk_storeN 1 rfl rfl rfl (by kernel_rfl) (by simp [Value.cells, Value.oneCell']) (by simp [Value.cells]) ?_) | (refine xk_storeN 2 rfl rfl rfl (by kernel_rfl) (by simp [Value.cells, Value.oneCell']) (by simp [Value.cells]) ?_) | (refine xk_storeN 3 rfl rfl rfl (by kernel_rfl) (by simp [Value.cells, Value.oneCell']) (by simp [Value.cells]) ?_) | (refine xk_storeN 4 rfl rfl rfl (by kernel_rfl) (by simp [Value.cells, Value.oneCell']) (by simp [Value.cells]) ?_) | (refine xk_storeN 5 rfl rfl rfl (by kernel_rfl) (by simp [Value.cells, Value.oneCell']) (by simp [Value.cells]) ?_) | (refine xk_storeN 6 rfl rfl rfl (by kernel_rfl) (by simp [Value.cells, Value.oneCell']) (by simp [Value.cells]) ?_) | (refine xk_storeN 7 rfl rfl rfl (by kernel_rfl) (by simp [Value.cells, Value.oneCell']) (by simp [Value.cells]) ?_) | (refine xk_storeN 8 rfl rfl rfl (by kernel_rfl) (by simp [Value.cells, Value.oneCell']) (by simp [Value.cells]) ?_)); simp only [putN, Value.cells, List.set, List.take, List.drop, List.nil_append, List.append_nil, List.length_cons, List.length_nil, List.cons_append, Nat.reduceAdd]
          refine XA.bt ?_
          refine XA.done (by kernel_rfl) ?_
          refine XK.norm ?_
          refine XK.ret ?_
          refine XK.norm ?_
          exact XK.retTC (n := 2) (vs := [.int .u8 k, .int .i64 id]) rfl (by kernel_rfl) rfl rfl (by first | assumption | exact RdN.whole 0 rfl | exact RdN.whole 1 rfl | exact RdN.whole 2 rfl | exact RdN.whole 3 rfl | exact RdN.whole 4 rfl | exact RdN.whole 5 rfl | exact RdN.whole 6 rfl | exact RdN.whole 7 rfl | exact RdN.whole 8 rfl | exact RdN.roc (by simp) (by assumption)) rfl fun w9 st => ⟨by
            rw [decF, hrd]; dsimp only; rw [if_neg h4, if_pos h6, if_neg (fun hh => h7 hh.1)]; rfl, st.below (by simp)⟩
      ·
        refine XK.skip ?_
        refine XK.norm ?_
        refine XK.seq ?_
        refine XK.seq ?_

        refine XK.region ?_
        refine xk_ldN 4 rfl ?_
        refine xk_ldN 6 rfl ?_
        refine xk_move rfl (by decide) ?_
        refine xk_ldN 2 rfl ?_
        refine xk_callR (f := 60) (fi := []) (ca := []) (by kernel_rfl) rfl rfl (by decide) (fun w1 st => denied_any q qx s A1 A2 A3 A4 n1 k1 n2 k2 n3 k3 n4 k4 X1 X2 X3 Y1 Y2 Y3 xn1 xk1 xn2 xk2 xn3 xk3 yn1 yk1 yn2 yk2 yn3 yk3 x y ag k id w1 hSP hm (st.le (by simp)) hSt (st.le (by simp)) hag) ?_
        refine XK.nilN ?_
        refine XK.cond rfl (fun h12 => ?_) (fun h12 => ?_)
        ·
          refine XK.seq ?_

          refine XK.region ?_
          refine xk_buildS (zs := [.int .u8 0, .int .i64 0]) (L := [(0, 1), (1, 1)]) (zeroB_of (by kernel_rfl)) (by kernel_rfl) rfl (by simp [fillL, setN, Value.cells]; rfl) (by decide) ?_
          refine xk_assign rfl (by decide) ?_
          (first | (refine xk_storeN 0 rfl rfl rfl (by kernel_rfl) (by simp [Value.cells, Value.oneCell']) (by simp [Value.cells]) ?_) | (refine xk_storeN 1 rfl rfl rfl (by kernel_rfl) (by simp [Value.cells, Value.oneCell']) (by simp [Value.cells]) ?_) | (refine xk_storeN 2 rfl rfl rfl (by kernel_rfl) (by simp [Value.cells, Value.oneCell']) (by simp [Value.cells]) ?_) | (refine xk_storeN 3 rfl rfl rfl (by kernel_rfl) (by simp [Value.cells, Value.oneCell']) (by simp [Value.cells]) ?_) | (refine xk_storeN 4 rfl rfl rfl (by kernel_rfl) (by simp [Value.cells, Value.oneCell']) (by simp [Value.cells]) ?_) | (refine xk_storeN 5 rfl rfl rfl (by kernel_rfl) (by simp [Value.cells, Value.oneCell']) (by simp [Value.cells]) ?_) | (refine xk_storeN 6 rfl rfl rfl (by kernel_rfl) (by simp [Value.cells, Value.oneCell']) (by simp [Value.cells]) ?_) | (refine xk_storeN 7 rfl rfl rfl (by kernel_rfl) (by simp [Value.cells, Value.oneCell']) (by simp [Value.cells]) ?_) | (refine xk_storeN 8 rfl rfl rfl (by kernel_rfl) (by simp [Value.cells, Value.oneCell']) (by simp [Value.cells]) ?_)); simp only [putN, Value.cells, List.set, List.take, List.drop, List.nil_append, List.append_nil, List.length_cons, List.length_nil, List.cons_append, Nat.reduceAdd]
          refine XK.nilN ?_
          refine XK.ret ?_
          refine XK.norm ?_
          exact XK.retTC (n := 2) (vs := [.int .u8 0, .int .i64 0]) rfl (by kernel_rfl) rfl rfl (by first | assumption | exact RdN.whole 0 rfl | exact RdN.whole 1 rfl | exact RdN.whole 2 rfl | exact RdN.whole 3 rfl | exact RdN.whole 4 rfl | exact RdN.whole 5 rfl | exact RdN.whole 6 rfl | exact RdN.whole 7 rfl | exact RdN.whole 8 rfl | exact RdN.roc (by simp) (by assumption)) rfl fun w9 st => ⟨by
            rw [decF, hrd]; dsimp only; rw [if_neg h4, if_neg h6, if_pos h12]; rfl, st.below (by simp)⟩
        ·
          refine XK.skip ?_
          refine XK.norm ?_
          refine XK.seq ?_
          refine XK.seq ?_

          refine XK.region ?_
          refine xk_ldN 4 rfl ?_
          refine xk_move rfl (by decide) ?_
          refine xk_ldN 2 rfl ?_
          refine xk_callR (f := 61) (fi := []) (ca := []) (by kernel_rfl) rfl rfl (by decide) (fun w1 st => busy_any q s A1 A2 A3 A4 n1 k1 n2 k2 n3 k3 n4 k4 Aw nw cw wt k id w1 hSP hm (st.le (by simp)) (hw.le (st.le (by simp))) hnw) ?_
          refine XK.nilN ?_
          refine XK.cond rfl (fun h14 => ?_) (fun h14 => ?_)
          ·
            refine XK.seq ?_

            refine XK.region ?_
            refine xk_buildS (zs := [.int .u8 0, .int .i64 0]) (L := [(0, 1), (1, 1)]) (zeroB_of (by kernel_rfl)) (by kernel_rfl) rfl (by simp [fillL, setN, Value.cells]; rfl) (by decide) ?_
            refine xk_assign rfl (by decide) ?_
            (first | (refine xk_storeN 0 rfl rfl rfl (by kernel_rfl) (by simp [Value.cells, Value.oneCell']) (by simp [Value.cells]) ?_) | (refine xk_storeN 1 rfl rfl rfl (by kernel_rfl) (by simp [Value.cells, Value.oneCell']) (by simp [Value.cells]) ?_) | (refine xk_storeN 2 rfl rfl rfl (by kernel_rfl) (by simp [Value.cells, Value.oneCell']) (by simp [Value.cells]) ?_) | (refine xk_storeN 3 rfl rfl rfl (by kernel_rfl) (by simp [Value.cells, Value.oneCell']) (by simp [Value.cells]) ?_) | (refine xk_storeN 4 rfl rfl rfl (by kernel_rfl) (by simp [Value.cells, Value.oneCell']) (by simp [Value.cells]) ?_) | (refine xk_storeN 5 rfl rfl rfl (by kernel_rfl) (by simp [Value.cells, Value.oneCell']) (by simp [Value.cells]) ?_) | (refine xk_storeN 6 rfl rfl rfl (by kernel_rfl) (by simp [Value.cells, Value.oneCell']) (by simp [Value.cells]) ?_) | (refine xk_storeN 7 rfl rfl rfl (by kernel_rfl) (by simp [Value.cells, Value.oneCell']) (by simp [Value.cells]) ?_) | (refine xk_storeN 8 rfl rfl rfl (by kernel_rfl) (by simp [Value.cells, Value.oneCell']) (by simp [Value.cells]) ?_)); simp only [putN, Value.cells, List.set, List.take, List.drop, List.nil_append, List.append_nil, List.length_cons, List.length_nil, List.cons_append, Nat.reduceAdd]
            refine XK.nilN ?_
            refine XK.ret ?_
            refine XK.norm ?_
            exact XK.retTC (n := 2) (vs := [.int .u8 0, .int .i64 0]) rfl (by kernel_rfl) rfl rfl (by first | assumption | exact RdN.whole 0 rfl | exact RdN.whole 1 rfl | exact RdN.whole 2 rfl | exact RdN.whole 3 rfl | exact RdN.whole 4 rfl | exact RdN.whole 5 rfl | exact RdN.whole 6 rfl | exact RdN.whole 7 rfl | exact RdN.whole 8 rfl | exact RdN.roc (by simp) (by assumption)) rfl fun w9 st => ⟨by
              rw [decF, hrd]; dsimp only; rw [if_neg h4, if_neg h6, if_neg (by rw [h12]; exact Bool.false_ne_true), if_pos h14]; rfl, st.below (by simp)⟩
          ·
            refine XK.skip ?_
            refine XK.norm ?_
            refine XK.seq ?_
            subst hst0

            refine XK.draw 2 (by kernel_rfl) (by kernel_rfl) ?_
            refine XA.dA 0 rfl rfl rfl (does_ldN 2 rfl) ?_
            refine XA.dA 1 rfl rfl rfl (does_assign rfl) ?_
            refine XA.next 2 rfl (by kernel_rfl) ?_
            (first | (refine xk_storeN 0 rfl rfl rfl (by kernel_rfl) (by simp [Value.cells, Value.oneCell']) (by simp [Value.cells]) ?_) | (refine xk_storeN 1 rfl rfl rfl (by kernel_rfl) (by simp [Value.cells, Value.oneCell']) (by simp [Value.cells]) ?_) | (refine xk_storeN 2 rfl rfl rfl (by kernel_rfl) (by simp [Value.cells, Value.oneCell']) (by simp [Value.cells]) ?_) | (refine xk_storeN 3 rfl rfl rfl (by kernel_rfl) (by simp [Value.cells, Value.oneCell']) (by simp [Value.cells]) ?_) | (refine xk_storeN 4 rfl rfl rfl (by kernel_rfl) (by simp [Value.cells, Value.oneCell']) (by simp [Value.cells]) ?_) | (refine xk_storeN 5 rfl rfl rfl (by kernel_rfl) (by simp [Value.cells, Value.oneCell']) (by simp [Value.cells]) ?_) | (refine xk_storeN 6 rfl rfl rfl (by kernel_rfl) (by simp [Value.cells, Value.oneCell']) (by simp [Value.cells]) ?_) | (refine xk_storeN 7 rfl rfl rfl (by kernel_rfl) (by simp [Value.cells, Value.oneCell']) (by simp [Value.cells]) ?_) | (refine xk_storeN 8 rfl rfl rfl (by kernel_rfl) (by simp [Value.cells, Value.oneCell']) (by simp [Value.cells]) ?_)); simp only [putN, Value.cells, List.set, List.take, List.drop, List.nil_append, List.append_nil, List.length_cons, List.length_nil, List.cons_append, Nat.reduceAdd]
            refine XA.bt ?_
            refine XA.done (by kernel_rfl) ?_
            refine XK.norm ?_
            refine XK.ret ?_
            refine XK.norm ?_
            exact XK.retTC (n := 2) (vs := [.int .u8 k, .int .i64 id]) rfl (by kernel_rfl) rfl rfl (by first | assumption | exact RdN.whole 0 rfl | exact RdN.whole 1 rfl | exact RdN.whole 2 rfl | exact RdN.whole 3 rfl | exact RdN.whole 4 rfl | exact RdN.whole 5 rfl | exact RdN.whole 6 rfl | exact RdN.whole 7 rfl | exact RdN.whole 8 rfl | exact RdN.roc (by simp) (by assumption)) rfl fun w9 st => ⟨by
              rw [decF, hrd]; dsimp only; rw [if_neg h4, if_neg h6, if_neg (by rw [h12]; exact Bool.false_ne_true), if_neg (by rw [h14]; exact Bool.false_ne_true)]; rfl, st.below (by simp)⟩

end Go.Proofs.Ytbgibbbggajgaaa
/- package table: what is wished then. No walk in sight. -/
namespace Go.Proofs.Ytbgibbbggajgaaa
set_option linter.all false
open Go.RowKit
def setBL (l : List Bool) (id : Int) (b : Bool) : List Bool := if 0 ≤ id ∧ id < (l.length : Int) then l.set id.toNat b else l
theorem setBL_out {l : List Bool} {id : Int} (b : Bool) (h : ¬ (0 ≤ id ∧ id < (l.length : Int))) : setBL l id b = l := if_neg h
theorem setBL_len (l : List Bool) (id : Int) (b : Bool) : (setBL l id b).length = l.length := by unfold setBL; split <;> simp
def setW (x : Wsh) (k id : Int) : Wsh :=
  if k = 117 ∨ k = 100 ∨ k = 107 then ⟨setBL x.d id (decide (onB k)), x.c, x.l⟩
  else if k = 99 ∨ k = 111 then ⟨x.d, setBL x.c id (decide (onB k)), x.l⟩
  else if k = 114 ∨ k = 97 then ⟨x.d, x.c, setBL x.l id (decide (onB k))⟩ else x
def doneX (x : Wsh) (ag : Nat) (k id : Int) : Wsh := if ag = 0 then setW x k id else x
def doneY (y : Wsh) (ag : Nat) (k id : Int) : Wsh := if ag = 0 then y else setW y k id
theorem boolCells_setB {l : List Bool} {id : Int} (b : Bool) (h : 0 ≤ id ∧ id < (l.length : Int)) : (boolCells l).set id.toNat (.bool b) = boolCells (setBL l id b) := by
  rw [setBL, if_pos h]
  simp [boolCells, List.map_set]
section
variable {N : Nat} {w0 w : World} {e : Env} {R : List Piece} {H : List HP} {K : Act → World → Prop}
theorem St.ownRd (st : St w0 R H w) {i n c sz : Nat} {t : TypeId} {A : Option Addr} {xs : List Value} (hi : H[i]? = some (HP.own t sz (.slice A n c) n xs)) (hn : 0 < n) : ∃ g, A = some ⟨g, 0, none⟩ := by
  obtain ⟨_, h2⟩ := st.own hi
  rcases h2 with ⟨h2, h3⟩ | ⟨g', cap, cur, hv, _⟩
  · omega
  · injection hv with h4 h5 h6
    exact ⟨g', h4⟩
/-- an own row that is not empty lies in a block -/
theorem XK.ownAt (i : Nat) {n c sz : Nat} {t : TypeId} {A : Option Addr} {xs : List Value} (hi : H[i]? = some (HP.own t sz (.slice A n c) n xs)) (hn : 0 < n) (h : (∃ g, A = some ⟨g, 0, none⟩) → XK N w0 K e R H) : XK N w0 K e R H := fun a w hr st => h (st.ownRd hi hn) a w hr st
end
end Go.Proofs.Ytbgibbbggajgaaa
/- package table: what is wished then. -/
namespace Go.Proofs.Ytbgibbbggajgaaa
set_option linter.all false
open Go.RowKit

set_option maxHeartbeats 4000000 in
theorem done_any (qx : Piece) (X1 X2 X3 Y1 Y2 Y3 : Option Addr) (xk1 xk2 xk3 yk1 yk2 yk3 : Nat) (x y : Wsh) (ag : Nat) (k id : Int) (w : World) (hqx : qx.Le (all w)) (hag : ag < 2) (hbx : x.sm) (hby : y.sm) (s0 : SlS qx 1 X1 x.d.length (boolCells x.d)) (s1 : SlS qx 1 X2 x.c.length (boolCells x.c)) (s2 : SlS qx 1 X3 x.l.length (boolCells x.l)) (s3 : SlS qx 1 Y1 y.d.length (boolCells y.d)) (s4 : SlS qx 1 Y2 y.c.length (boolCells y.c)) (s5 : SlS qx 1 Y3 y.l.length (boolCells y.l)) :
    Calls Try.prog 38 #[.agg #[.slice X1 x.d.length xk1, .slice X2 x.c.length xk2, .slice X3 x.l.length xk3, .slice Y1 y.d.length yk1, .slice Y2 y.c.length yk2, .slice Y3 y.l.length yk3], .int .i64 (ag : Int), .agg #[.int .u8 k, .int .i64 id]] w (RtW (fun v w w' => StR (fresh w w') (doneX x ag k id) (doneY y ag k id) v) w) := by
  obtain ⟨h0, h1, h2⟩ := hbx
  obtain ⟨h3, h4, h5⟩ := hby
  refine XK.enter (vs := [.agg #[.slice X1 x.d.length xk1, .slice X2 x.c.length xk2, .slice X3 x.l.length xk3, .slice Y1 y.d.length yk1, .slice Y2 y.c.length yk2, .slice Y3 y.l.length yk3], .int .i64 (ag : Int), .agg #[.int .u8 k, .int .i64 id]]) Try.func38 rfl Try.ntmps38 (by simp) ?_
  refine XK.seq ?_
  refine XK.piece qx (by simp) hqx ?_

  refine XK.region ?_
  refine xk_box rfl (by decide) fun g1 => ?_
  refine xk_box rfl (by decide) fun g2 => ?_
  refine xk_alloc (cs := [.slice none 0 0, .slice none 0 0, .slice none 0 0, .slice none 0 0, .slice none 0 0, .slice none 0 0]) (zeroB_of (by kernel_rfl)) (by decide) fun g3 => ?_
  refine XK.nilN ?_
  refine XK.seq ?_

  refine XK.region ?_
  refine xk_alloc (cs := [.slice none 0 0, .slice none 0 0, .slice none 0 0, .slice none 0 0, .slice none 0 0, .slice none 0 0]) (zeroB_of (by kernel_rfl)) (by decide) fun g4 => ?_
  refine XK.nilN ?_
  refine XK.seq ?_
  refine XK.seq ?_

  refine XK.region ?_
  refine xk_field (off := 0) (by kernel_rfl) rfl (by decide) ?_
  refine xk_ldN 6 rfl ?_
  refine xk_move rfl (by decide) ?_
  refine XK.nilN ?_
  refine XK.envS [(13, .int .i64 0), (12, .agg #[.slice X1 x.d.length xk1, .slice X2 x.c.length xk2, .slice X3 x.l.length xk3, .slice Y1 y.d.length yk1, .slice Y2 y.c.length yk2, .slice Y3 y.l.length yk3]), (7, .pointer (some ⟨g4, 0, none⟩)), (6, .pointer (some ⟨g3, 0, none⟩)), (5, .pointer (some ⟨g2, 0, none⟩)), (3, .pointer (some ⟨g1, 0, none⟩)), (1, .int .i64 (ag : Int))] ?_
  refine XK.block ?_
  refine XK.loop (fun m e R H => (m = 2 ∧ e = [(13, .int .i64 0), (12, .agg #[.slice X1 x.d.length xk1, .slice X2 x.c.length xk2, .slice X3 x.l.length xk3, .slice Y1 y.d.length yk1, .slice Y2 y.c.length yk2, .slice Y3 y.l.length yk3]), (7, .pointer (some ⟨g4, 0, none⟩)), (6, .pointer (some ⟨g3, 0, none⟩)), (5, .pointer (some ⟨g2, 0, none⟩)), (3, .pointer (some ⟨g1, 0, none⟩)), (1, .int .i64 (ag : Int))] ∧ R = [qx, all w] ∧ H = [HP.blk g4 79 [.slice none 0 0, .slice none 0 0, .slice none 0 0, .slice none 0 0, .slice none 0 0, .slice none 0 0], HP.blk g3 79 [.slice none 0 0, .slice none 0 0, .slice none 0 0, .slice none 0 0, .slice none 0 0, .slice none 0 0], HP.blk g2 92 [.int .u8 k, .int .i64 id], HP.blk g1 79 [.slice X1 x.d.length xk1, .slice X2 x.c.length xk2, .slice X3 x.l.length xk3, .slice Y1 y.d.length yk1, .slice Y2 y.c.length yk2, .slice Y3 y.l.length yk3]]) ∨ (m = 1 ∧ ∃ (B0 : Option Addr) (c0 : Nat) (B1 : Option Addr) (c1 : Nat) (B2 : Option Addr) (c2 : Nat), e = [(13, .int .i64 1), (12, .agg #[.slice X1 x.d.length xk1, .slice X2 x.c.length xk2, .slice X3 x.l.length xk3, .slice Y1 y.d.length yk1, .slice Y2 y.c.length yk2, .slice Y3 y.l.length yk3]), (7, .pointer (some ⟨g4, 0, none⟩)), (6, .pointer (some ⟨g3, 0, none⟩)), (5, .pointer (some ⟨g2, 0, none⟩)), (3, .pointer (some ⟨g1, 0, none⟩)), (1, .int .i64 (ag : Int))] ∧ R = [qx, all w] ∧ H = [HP.own 4 1 (.slice B0 x.d.length c0) x.d.length (boolCells x.d), HP.own 4 1 (.slice B1 x.c.length c1) x.c.length (boolCells x.c), HP.own 4 1 (.slice B2 x.l.length c2) x.l.length (boolCells x.l), HP.blk g4 79 [.slice B0 x.d.length c0, .slice B1 x.c.length c1, .slice B2 x.l.length c2, .slice none 0 0, .slice none 0 0, .slice none 0 0], HP.blk g3 79 [.slice none 0 0, .slice none 0 0, .slice none 0 0, .slice none 0 0, .slice none 0 0, .slice none 0 0], HP.blk g2 92 [.int .u8 k, .int .i64 id], HP.blk g1 79 [.slice X1 x.d.length xk1, .slice X2 x.c.length xk2, .slice X3 x.l.length xk3, .slice Y1 y.d.length yk1, .slice Y2 y.c.length yk2, .slice Y3 y.l.length yk3]]) ∨ (m = 0 ∧ ∃ (B0 : Option Addr) (c0 : Nat) (B1 : Option Addr) (c1 : Nat) (B2 : Option Addr) (c2 : Nat) (B3 : Option Addr) (c3 : Nat) (B4 : Option Addr) (c4 : Nat) (B5 : Option Addr) (c5 : Nat), e = [(13, .int .i64 2), (12, .agg #[.slice X1 x.d.length xk1, .slice X2 x.c.length xk2, .slice X3 x.l.length xk3, .slice Y1 y.d.length yk1, .slice Y2 y.c.length yk2, .slice Y3 y.l.length yk3]), (7, .pointer (some ⟨g4, 0, none⟩)), (6, .pointer (some ⟨g3, 0, none⟩)), (5, .pointer (some ⟨g2, 0, none⟩)), (3, .pointer (some ⟨g1, 0, none⟩)), (1, .int .i64 (ag : Int))] ∧ R = [qx, all w] ∧ H = [HP.own 4 1 (.slice B0 x.d.length c0) x.d.length (boolCells x.d), HP.own 4 1 (.slice B1 x.c.length c1) x.c.length (boolCells x.c), HP.own 4 1 (.slice B2 x.l.length c2) x.l.length (boolCells x.l), HP.own 4 1 (.slice B3 y.d.length c3) y.d.length (boolCells y.d), HP.own 4 1 (.slice B4 y.c.length c4) y.c.length (boolCells y.c), HP.own 4 1 (.slice B5 y.l.length c5) y.l.length (boolCells y.l), HP.blk g4 79 [.slice B0 x.d.length c0, .slice B1 x.c.length c1, .slice B2 x.l.length c2, .slice B3 y.d.length c3, .slice B4 y.c.length c4, .slice B5 y.l.length c5], HP.blk g3 79 [.slice none 0 0, .slice none 0 0, .slice none 0 0, .slice none 0 0, .slice none 0 0, .slice none 0 0], HP.blk g2 92 [.int .u8 k, .int .i64 id], HP.blk g1 79 [.slice X1 x.d.length xk1, .slice X2 x.c.length xk2, .slice X3 x.l.length xk3, .slice Y1 y.d.length yk1, .slice Y2 y.c.length yk2, .slice Y3 y.l.length yk3]])) 2 (.inl ⟨rfl, rfl, rfl, rfl⟩) fun m e R H hI => ?_
  rcases hI with ⟨rfl, rfl, rfl, rfl⟩ | ⟨rfl, B0, c0, B1, c1, B2, c2, rfl, rfl, rfl⟩ | ⟨rfl, B0, c0, B1, c1, B2, c2, B3, c3, B4, c4, B5, c5, rfl, rfl, rfl⟩
  · skip
    refine XK.seq ?_

    refine XK.region ?_
    refine xk_lss rfl rfl (by decide) ?_
    refine XK.nilN ?_
    refine XK.seq ?_
    refine XK.cond rfl (fun _ => ?_) (fun h => by simp at h)
    refine XK.skip ?_
    refine XK.norm ?_
    refine XK.seq ?_
    refine XK.block ?_
    refine XK.seq ?_

    refine XK.region ?_
    refine xk_move rfl (by decide) ?_
    refine xk_indexA 0 (len := 2) (n := 3) (by kernel_rfl) rfl rfl rfl (by decide) rfl (by decide) ?_
    refine xk_alloc (cs := [.slice none 0 0, .slice none 0 0, .slice none 0 0]) (zeroB_of (by kernel_rfl)) (by decide) fun g5 => ?_
    refine xk_assign rfl (by decide) ?_
    (first | (refine xk_storeN 0 rfl rfl rfl (by kernel_rfl) (by simp [Value.cells, Value.oneCell']) (by simp [Value.cells]) ?_) | (refine xk_storeN 1 rfl rfl rfl (by kernel_rfl) (by simp [Value.cells, Value.oneCell']) (by simp [Value.cells]) ?_) | (refine xk_storeN 2 rfl rfl rfl (by kernel_rfl) (by simp [Value.cells, Value.oneCell']) (by simp [Value.cells]) ?_) | (refine xk_storeN 3 rfl rfl rfl (by kernel_rfl) (by simp [Value.cells, Value.oneCell']) (by simp [Value.cells]) ?_) | (refine xk_storeN 4 rfl rfl rfl (by kernel_rfl) (by simp [Value.cells, Value.oneCell']) (by simp [Value.cells]) ?_) | (refine xk_storeN 5 rfl rfl rfl (by kernel_rfl) (by simp [Value.cells, Value.oneCell']) (by simp [Value.cells]) ?_) | (refine xk_storeN 6 rfl rfl rfl (by kernel_rfl) (by simp [Value.cells, Value.oneCell']) (by simp [Value.cells]) ?_) | (refine xk_storeN 7 rfl rfl rfl (by kernel_rfl) (by simp [Value.cells, Value.oneCell']) (by simp [Value.cells]) ?_) | (refine xk_storeN 8 rfl rfl rfl (by kernel_rfl) (by simp [Value.cells, Value.oneCell']) (by simp [Value.cells]) ?_)); simp only [putN, Value.cells, List.set, List.take, List.drop, List.nil_append, List.append_nil, List.length_cons, List.length_nil, List.cons_append, Nat.reduceAdd]
    refine XK.nilN ?_

    refine XK.draw 12 (by kernel_rfl) (by kernel_rfl) ?_
    refine XA.dA 0 rfl rfl rfl (does_move rfl) ?_
    refine XA.dA 1 rfl rfl rfl (does_field (off := 0) (by kernel_rfl) rfl) ?_
    refine XA.dA 2 rfl rfl rfl (does_ld rfl) ?_
    refine XA.dA 4 rfl rfl rfl (does_field (off := 1) (by kernel_rfl) rfl) ?_
    refine XA.dA 5 rfl rfl rfl (does_ld rfl) ?_
    refine XA.dA 7 rfl rfl rfl (does_field (off := 2) (by kernel_rfl) rfl) ?_
    refine XA.dA 8 rfl rfl rfl (does_ld rfl) ?_
    refine XA.dA 11 rfl rfl rfl (does_field (off := 0) (by kernel_rfl) rfl) ?_
    refine XA.next 3 rfl (by kernel_rfl) ?_
    refine xk_callN (f := 48) (fi := []) (ca := []) (by kernel_rfl) rfl rfl (by decide) (CloneOk_clone_bool x.d.length (boolCells x.d)) (fun w1 st => clone_bool _ _ _ _ w1 (s0.le (st.le (by simp))) (boolCells_one _) (by have := h0; omega)) ?_
    rintro _ _ q0 ⟨B0, c0, rfl, rfl⟩ _
    simp only [List.cons_append, List.nil_append]
    refine XK.nil ?_; refine XK.thenN ?_; refine XA.back (fun _ h => h.tailR.tail) ?_
    refine XA.next 6 rfl (by kernel_rfl) ?_
    refine xk_callN (f := 48) (fi := []) (ca := []) (by kernel_rfl) rfl rfl (by decide) (CloneOk_clone_bool x.c.length (boolCells x.c)) (fun w1 st => clone_bool _ _ _ _ w1 (s1.le (st.le (by simp))) (boolCells_one _) (by have := h1; omega)) ?_
    rintro _ _ q1 ⟨B1, c1, rfl, rfl⟩ _
    simp only [List.cons_append, List.nil_append]
    refine XK.nil ?_; refine XK.thenN ?_; refine XA.back (fun _ h => h.tailR.tailR.tail.tail) ?_
    refine XA.next 9 rfl (by kernel_rfl) ?_
    refine xk_callN (f := 48) (fi := []) (ca := []) (by kernel_rfl) rfl rfl (by decide) (CloneOk_clone_bool x.l.length (boolCells x.l)) (fun w1 st => clone_bool _ _ _ _ w1 (s2.le (st.le (by simp))) (boolCells_one _) (by have := h2; omega)) ?_
    rintro _ _ q2 ⟨B2, c2, rfl, rfl⟩ _
    simp only [List.cons_append, List.nil_append]
    refine XK.nil ?_; refine XK.thenN ?_; refine XA.back (fun _ h => h.tailR.tailR.tailR.tail.tail.tail) ?_
    refine XA.do_ 10 rfl rfl rfl (by decide) (does_buildS (zs := [.slice none 0 0, .slice none 0 0, .slice none 0 0]) (L := [(0, 1), (1, 1), (2, 1)]) (zeroB_of (by kernel_rfl)) (by kernel_rfl) rfl (by simp [fillL, setN, Value.cells]; rfl)) (by kernel_rfl) (fun _ _ _ h => h) (fun _ h => h.tailR.tailR.tailR.tail.tail.tail) ?_
    refine XA.next 12 rfl (by kernel_rfl) ?_
    refine xk_atA 0 0 (n := 2) (el := 56) (sz := 3) (by kernel_rfl) (by kernel_rfl) rfl rfl (by omega) (by omega) (by omega) (by decide) ?_
    refine XA.bt ?_
    refine XA.next 13 rfl (by kernel_rfl) ?_
    (first | (refine xk_storeN 0 rfl rfl rfl (by kernel_rfl) (by simp [Value.cells, Value.oneCell']) (by simp [Value.cells]) ?_) | (refine xk_storeN 1 rfl rfl rfl (by kernel_rfl) (by simp [Value.cells, Value.oneCell']) (by simp [Value.cells]) ?_) | (refine xk_storeN 2 rfl rfl rfl (by kernel_rfl) (by simp [Value.cells, Value.oneCell']) (by simp [Value.cells]) ?_) | (refine xk_storeN 3 rfl rfl rfl (by kernel_rfl) (by simp [Value.cells, Value.oneCell']) (by simp [Value.cells]) ?_) | (refine xk_storeN 4 rfl rfl rfl (by kernel_rfl) (by simp [Value.cells, Value.oneCell']) (by simp [Value.cells]) ?_) | (refine xk_storeN 5 rfl rfl rfl (by kernel_rfl) (by simp [Value.cells, Value.oneCell']) (by simp [Value.cells]) ?_) | (refine xk_storeN 6 rfl rfl rfl (by kernel_rfl) (by simp [Value.cells, Value.oneCell']) (by simp [Value.cells]) ?_) | (refine xk_storeN 7 rfl rfl rfl (by kernel_rfl) (by simp [Value.cells, Value.oneCell']) (by simp [Value.cells]) ?_) | (refine xk_storeN 8 rfl rfl rfl (by kernel_rfl) (by simp [Value.cells, Value.oneCell']) (by simp [Value.cells]) ?_)); simp only [putN, Value.cells, List.set, List.take, List.drop, List.nil_append, List.append_nil, List.length_cons, List.length_nil, List.cons_append, Nat.reduceAdd]
    refine XA.bt ?_
    refine XA.done (by kernel_rfl) ?_
    refine XK.norm ?_

    refine XK.region ?_
    refine xk_add rfl rfl (wrap_in (by omega)) (by decide) ?_
    refine xk_move rfl (by decide) ?_
    refine XK.nilN ?_
    exact XK.weak [2, 1, 0, 4, 5, 6, 7] rfl (by decide) (by simp) (XK.envS [(13, .int .i64 1), (12, .agg #[.slice X1 x.d.length xk1, .slice X2 x.c.length xk2, .slice X3 x.l.length xk3, .slice Y1 y.d.length yk1, .slice Y2 y.c.length yk2, .slice Y3 y.l.length yk3]), (7, .pointer (some ⟨g4, 0, none⟩)), (6, .pointer (some ⟨g3, 0, none⟩)), (5, .pointer (some ⟨g2, 0, none⟩)), (3, .pointer (some ⟨g1, 0, none⟩)), (1, .int .i64 (ag : Int))] (XK.round 1 (by omega) (.inr (.inl ⟨rfl, B0, c0, B1, c1, B2, c2, rfl, rfl, rfl⟩))))
  · skip
    refine XK.seq ?_

    refine XK.region ?_
    refine xk_lss rfl rfl (by decide) ?_
    refine XK.nilN ?_
    refine XK.seq ?_
    refine XK.cond rfl (fun _ => ?_) (fun h => by simp at h)
    refine XK.skip ?_
    refine XK.norm ?_
    refine XK.seq ?_
    refine XK.block ?_
    refine XK.seq ?_

    refine XK.region ?_
    refine xk_move rfl (by decide) ?_
    refine xk_indexA 1 (len := 2) (n := 3) (by kernel_rfl) rfl rfl rfl (by decide) rfl (by decide) ?_
    refine xk_alloc (cs := [.slice none 0 0, .slice none 0 0, .slice none 0 0]) (zeroB_of (by kernel_rfl)) (by decide) fun g5 => ?_
    refine xk_assign rfl (by decide) ?_
    (first | (refine xk_storeN 0 rfl rfl rfl (by kernel_rfl) (by simp [Value.cells, Value.oneCell']) (by simp [Value.cells]) ?_) | (refine xk_storeN 1 rfl rfl rfl (by kernel_rfl) (by simp [Value.cells, Value.oneCell']) (by simp [Value.cells]) ?_) | (refine xk_storeN 2 rfl rfl rfl (by kernel_rfl) (by simp [Value.cells, Value.oneCell']) (by simp [Value.cells]) ?_) | (refine xk_storeN 3 rfl rfl rfl (by kernel_rfl) (by simp [Value.cells, Value.oneCell']) (by simp [Value.cells]) ?_) | (refine xk_storeN 4 rfl rfl rfl (by kernel_rfl) (by simp [Value.cells, Value.oneCell']) (by simp [Value.cells]) ?_) | (refine xk_storeN 5 rfl rfl rfl (by kernel_rfl) (by simp [Value.cells, Value.oneCell']) (by simp [Value.cells]) ?_) | (refine xk_storeN 6 rfl rfl rfl (by kernel_rfl) (by simp [Value.cells, Value.oneCell']) (by simp [Value.cells]) ?_) | (refine xk_storeN 7 rfl rfl rfl (by kernel_rfl) (by simp [Value.cells, Value.oneCell']) (by simp [Value.cells]) ?_) | (refine xk_storeN 8 rfl rfl rfl (by kernel_rfl) (by simp [Value.cells, Value.oneCell']) (by simp [Value.cells]) ?_)); simp only [putN, Value.cells, List.set, List.take, List.drop, List.nil_append, List.append_nil, List.length_cons, List.length_nil, List.cons_append, Nat.reduceAdd]
    refine XK.nilN ?_

    refine XK.draw 12 (by kernel_rfl) (by kernel_rfl) ?_
    refine XA.dA 0 rfl rfl rfl (does_move rfl) ?_
    refine XA.dA 1 rfl rfl rfl (does_field (off := 0) (by kernel_rfl) rfl) ?_
    refine XA.dA 2 rfl rfl rfl (does_ld rfl) ?_
    refine XA.dA 4 rfl rfl rfl (does_field (off := 1) (by kernel_rfl) rfl) ?_
    refine XA.dA 5 rfl rfl rfl (does_ld rfl) ?_
    refine XA.dA 7 rfl rfl rfl (does_field (off := 2) (by kernel_rfl) rfl) ?_
    refine XA.dA 8 rfl rfl rfl (does_ld rfl) ?_
    refine XA.dA 11 rfl rfl rfl (does_field (off := 0) (by kernel_rfl) rfl) ?_
    refine XA.next 3 rfl (by kernel_rfl) ?_
    refine xk_callN (f := 48) (fi := []) (ca := []) (by kernel_rfl) rfl rfl (by decide) (CloneOk_clone_bool y.d.length (boolCells y.d)) (fun w1 st => clone_bool _ _ _ _ w1 (s3.le (st.le (by simp))) (boolCells_one _) (by have := h3; omega)) ?_
    rintro _ _ q0 ⟨B3, c3, rfl, rfl⟩ _
    simp only [List.cons_append, List.nil_append]
    refine XK.nil ?_; refine XK.thenN ?_; refine XA.back (fun _ h => h.tailR.tail) ?_
    refine XA.next 6 rfl (by kernel_rfl) ?_
    refine xk_callN (f := 48) (fi := []) (ca := []) (by kernel_rfl) rfl rfl (by decide) (CloneOk_clone_bool y.c.length (boolCells y.c)) (fun w1 st => clone_bool _ _ _ _ w1 (s4.le (st.le (by simp))) (boolCells_one _) (by have := h4; omega)) ?_
    rintro _ _ q1 ⟨B4, c4, rfl, rfl⟩ _
    simp only [List.cons_append, List.nil_append]
    refine XK.nil ?_; refine XK.thenN ?_; refine XA.back (fun _ h => h.tailR.tailR.tail.tail) ?_
    refine XA.next 9 rfl (by kernel_rfl) ?_
    refine xk_callN (f := 48) (fi := []) (ca := []) (by kernel_rfl) rfl rfl (by decide) (CloneOk_clone_bool y.l.length (boolCells y.l)) (fun w1 st => clone_bool _ _ _ _ w1 (s5.le (st.le (by simp))) (boolCells_one _) (by have := h5; omega)) ?_
    rintro _ _ q2 ⟨B5, c5, rfl, rfl⟩ _
    simp only [List.cons_append, List.nil_append]
    refine XK.nil ?_; refine XK.thenN ?_; refine XA.back (fun _ h => h.tailR.tailR.tailR.tail.tail.tail) ?_
    refine XA.do_ 10 rfl rfl rfl (by decide) (does_buildS (zs := [.slice none 0 0, .slice none 0 0, .slice none 0 0]) (L := [(0, 1), (1, 1), (2, 1)]) (zeroB_of (by kernel_rfl)) (by kernel_rfl) rfl (by simp [fillL, setN, Value.cells]; rfl)) (by kernel_rfl) (fun _ _ _ h => h) (fun _ h => h.tailR.tailR.tailR.tail.tail.tail) ?_
    refine XA.next 12 rfl (by kernel_rfl) ?_
    refine xk_atA 1 3 (n := 2) (el := 56) (sz := 3) (by kernel_rfl) (by kernel_rfl) rfl rfl (by omega) (by omega) (by omega) (by decide) ?_
    refine XA.bt ?_
    refine XA.next 13 rfl (by kernel_rfl) ?_
    (first | (refine xk_storeN 0 rfl rfl rfl (by kernel_rfl) (by simp [Value.cells, Value.oneCell']) (by simp [Value.cells]) ?_) | (refine xk_storeN 1 rfl rfl rfl (by kernel_rfl) (by simp [Value.cells, Value.oneCell']) (by simp [Value.cells]) ?_) | (refine xk_storeN 2 rfl rfl rfl (by kernel_rfl) (by simp [Value.cells, Value.oneCell']) (by simp [Value.cells]) ?_) | (refine xk_storeN 3 rfl rfl rfl (by kernel_rfl) (by simp [Value.cells, Value.oneCell']) (by simp [Value.cells]) ?_) | (refine xk_storeN 4 rfl rfl rfl (by kernel_rfl) (by simp [Value.cells, Value.oneCell']) (by simp [Value.cells]) ?_) | (refine xk_storeN 5 rfl rfl rfl (by kernel_rfl) (by simp [Value.cells, Value.oneCell']) (by simp [Value.cells]) ?_) | (refine xk_storeN 6 rfl rfl rfl (by kernel_rfl) (by simp [Value.cells, Value.oneCell']) (by simp [Value.cells]) ?_) | (refine xk_storeN 7 rfl rfl rfl (by kernel_rfl) (by simp [Value.cells, Value.oneCell']) (by simp [Value.cells]) ?_) | (refine xk_storeN 8 rfl rfl rfl (by kernel_rfl) (by simp [Value.cells, Value.oneCell']) (by simp [Value.cells]) ?_)); simp only [putN, Value.cells, List.set, List.take, List.drop, List.nil_append, List.append_nil, List.length_cons, List.length_nil, List.cons_append, Nat.reduceAdd]
    refine XA.bt ?_
    refine XA.done (by kernel_rfl) ?_
    refine XK.norm ?_

    refine XK.region ?_
    refine xk_add rfl rfl (wrap_in (by omega)) (by decide) ?_
    refine xk_move rfl (by decide) ?_
    refine XK.nilN ?_
    exact XK.weak [4, 5, 6, 2, 1, 0, 7, 8, 9, 10] rfl (by decide) (by simp) (XK.envS [(13, .int .i64 2), (12, .agg #[.slice X1 x.d.length xk1, .slice X2 x.c.length xk2, .slice X3 x.l.length xk3, .slice Y1 y.d.length yk1, .slice Y2 y.c.length yk2, .slice Y3 y.l.length yk3]), (7, .pointer (some ⟨g4, 0, none⟩)), (6, .pointer (some ⟨g3, 0, none⟩)), (5, .pointer (some ⟨g2, 0, none⟩)), (3, .pointer (some ⟨g1, 0, none⟩)), (1, .int .i64 (ag : Int))] (XK.round 0 (by omega) (.inr (.inr ⟨rfl, B0, c0, B1, c1, B2, c2, B3, c3, B4, c4, B5, c5, rfl, rfl, rfl⟩))))
  · skip
    refine XK.seq ?_

    refine XK.region ?_
    refine xk_lss rfl rfl (by decide) ?_
    refine XK.nilN ?_
    refine XK.seq ?_
    refine XK.cond rfl (fun h => by simp at h) (fun _ => ?_)
    refine XK.exit ?_
    refine XK.norm ?_
    refine XK.seq ?_
    refine XK.cutB 36 (False) ?_ ?_
    · skip

      refine XK.region ?_
      refine xk_move rfl (by decide) ?_
      refine xk_lss rfl rfl (by decide) ?_
      refine xk_move rfl (by decide) ?_
      (first | refine xk_split (t := 33) rfl (fun hg => ?_) (fun hg => ?_) | refine xk_splitB (t := 33) rfl (fun hg => ?_) (fun hg => ?_))
      ·
        refine xk_guardF rfl rfl rfl (by decide) ?_
        refine xk_guardF rfl rfl rfl (by decide) ?_
        (first | refine xk_pickT rfl rfl (by decide) ?_ | refine xk_pickF rfl rfl (by decide) ?_)
        refine XK.nilN ?_
        exact XK.meetB (by repeat (first | exact trivial | refine ⟨rfl, ?_⟩)) (by first | (refine get_iff rfl ?_; omega) | (refine get_iff rfl ?_; simp_all; done) | (refine get_false rfl ?_; first | omega | (simp_all; done)) | (refine get_true rfl ?_; first | omega | (simp_all; done)) | (refine get_bool rfl ?_; simp_all; done) | (refine get_iff rfl ⟨fun hh => ?_, fun hh => ?_⟩ <;> first | omega | (simp_all; done) | (simp_all; omega)) | (exfalso; omega))
      ·
        refine xk_guardT rfl rfl ?_; refine xk_move rfl (by decide) ?_
        refine xk_guardT rfl rfl ?_; refine xk_geq rfl rfl (by decide) ?_
        (first | refine xk_pickT rfl rfl (by decide) ?_ | refine xk_pickF rfl rfl (by decide) ?_)
        refine XK.nilN ?_
        exact XK.meetB (by repeat (first | exact trivial | refine ⟨rfl, ?_⟩)) (by first | (refine get_iff rfl ?_; omega) | (refine get_iff rfl ?_; simp_all; done) | (refine get_false rfl ?_; first | omega | (simp_all; done)) | (refine get_true rfl ?_; first | omega | (simp_all; done)) | (refine get_bool rfl ?_; simp_all; done) | (refine get_iff rfl ⟨fun hh => ?_, fun hh => ?_⟩ <;> first | omega | (simp_all; done) | (simp_all; omega)) | (exfalso; omega))
    refine XK.cond rfl (fun h => by simp at h) (fun _ => ?_)
    refine XK.skip ?_
    refine XK.norm ?_
    refine XK.seq ?_
    refine XK.seq ?_
    rcases (by omega : ag = 0 ∨ ag = 1) with rfl | rfl
    · rcases (by by_cases h0 : k = 117 ∨ k = 100 ∨ k = 107 <;> by_cases h1 : k = 99 ∨ k = 111 <;> by_cases h2 : k = 114 ∨ k = 97 <;> simp [h0, h1, h2] : (k = 117 ∨ k = 100 ∨ k = 107) ∨ ((¬ (k = 117 ∨ k = 100 ∨ k = 107)) ∧ (k = 99 ∨ k = 111)) ∨ ((¬ (k = 117 ∨ k = 100 ∨ k = 107)) ∧ (¬ (k = 99 ∨ k = 111)) ∧ (k = 114 ∨ k = 97)) ∨ ((¬ (k = 117 ∨ k = 100 ∨ k = 107)) ∧ (¬ (k = 99 ∨ k = 111)) ∧ (¬ (k = 114 ∨ k = 97)))) with hk | hk | hk | hk
      · skip

        refine XK.draw 5 (by kernel_rfl) (by kernel_rfl) ?_
        refine XA.dA 0 rfl rfl rfl (does_move rfl) ?_
        refine XA.dA 1 rfl rfl rfl (does_field (off := 0) (by kernel_rfl) rfl) ?_
        refine XA.dA 2 rfl rfl rfl (does_atA 0 0 (n := 2) (el := 56) (sz := 3) (by kernel_rfl) (by kernel_rfl) rfl rfl (by omega) (by omega) (by omega)) ?_
        refine XA.dA 3 rfl rfl rfl (does_field (off := 0) (by kernel_rfl) rfl) ?_
        refine XA.dA 4 rfl rfl rfl (does_ld rfl) ?_
        refine XA.next 5 rfl (by kernel_rfl) ?_
        refine xk_callR (f := 62) (fi := []) (ca := []) (by kernel_rfl) rfl rfl (by decide) (v0 := .slice B0 x.d.length c0) (fun w1 st => (list_any g4 0 k (.slice B0 x.d.length c0) (.slice B1 x.c.length c1) (.slice B2 x.l.length c2) w1 (by simpa using (st.box (i := 6) rfl).at_ (j := 0) rfl) (by simpa using (st.box (i := 6) rfl).at_ (j := 1) rfl) (by simpa using (st.box (i := 6) rfl).at_ (j := 2) rfl)).mono fun _ _ h => Rt.conv h (by simp [listV, hk])) ?_
        refine XA.bt ?_
        refine XA.next 6 rfl (by kernel_rfl) ?_
        refine xk_assign rfl (by decide) ?_
        refine XA.bt ?_
        refine XA.done (by kernel_rfl) ?_
        refine XK.norm ?_
        refine XK.cutB 53 (0 ≤ id ∧ id < (x.d.length : Int)) ?_ ?_
        · skip

          refine XK.region ?_
          refine xk_field (off := 1) (by kernel_rfl) rfl (by decide) ?_
          refine xk_ld rfl ?_
          refine xk_geq rfl rfl (by decide) ?_
          refine xk_move rfl (by decide) ?_
          (first | refine xk_split (t := 47) rfl (fun hg => ?_) (fun hg => ?_) | refine xk_splitB (t := 47) rfl (fun hg => ?_) (fun hg => ?_))
          ·
            refine xk_guardT rfl rfl ?_; refine xk_field (off := 1) (by kernel_rfl) rfl (by decide) ?_
            refine xk_guardT rfl rfl ?_; refine xk_ld rfl ?_
            refine xk_guardT rfl rfl ?_; refine xk_move rfl (by decide) ?_
            refine xk_guardT rfl rfl ?_; refine xk_len (el := 4) (by kernel_rfl) rfl (by decide) ?_
            refine xk_guardT rfl rfl ?_; refine xk_lss rfl rfl (by decide) ?_
            (first | refine xk_pickT rfl rfl (by decide) ?_ | refine xk_pickF rfl rfl (by decide) ?_)
            refine XK.nilN ?_
            exact XK.meetB (by repeat (first | exact trivial | refine ⟨rfl, ?_⟩)) (by first | (refine get_iff rfl ?_; omega) | (refine get_iff rfl ?_; simp_all; done) | (refine get_false rfl ?_; first | omega | (simp_all; done)) | (refine get_true rfl ?_; first | omega | (simp_all; done)) | (refine get_bool rfl ?_; simp_all; done) | (refine get_iff rfl ⟨fun hh => ?_, fun hh => ?_⟩ <;> first | omega | (simp_all; done) | (simp_all; omega)) | (exfalso; omega))
          ·
            refine xk_guardF rfl rfl rfl (by decide) ?_
            refine xk_guardF rfl rfl rfl (by decide) ?_
            refine xk_guardF rfl rfl rfl (by decide) ?_
            refine xk_guardF rfl rfl rfl (by decide) ?_
            refine xk_guardF rfl rfl rfl (by decide) ?_
            (first | refine xk_pickT rfl rfl (by decide) ?_ | refine xk_pickF rfl rfl (by decide) ?_)
            refine XK.nilN ?_
            exact XK.meetB (by repeat (first | exact trivial | refine ⟨rfl, ?_⟩)) (by first | (refine get_iff rfl ?_; omega) | (refine get_iff rfl ?_; simp_all; done) | (refine get_false rfl ?_; first | omega | (simp_all; done)) | (refine get_true rfl ?_; first | omega | (simp_all; done)) | (refine get_bool rfl ?_; simp_all; done) | (refine get_iff rfl ⟨fun hh => ?_, fun hh => ?_⟩ <;> first | omega | (simp_all; done) | (simp_all; omega)) | (exfalso; omega))
        refine XK.if_ rfl (fun hin => ?_) (fun hin => ?_)
        ·
          refine XK.ownAt 0 rfl (by omega) ?_
          rintro ⟨gb, rfl⟩
          refine XK.openOwn 0 rfl fun cs hcl hct hnc hcm => ?_
          dsimp only [List.set]
          have hct1 : cs.take x.d.length = boolCells x.d := by simpa using hct

          refine XK.draw 6 (by kernel_rfl) (by kernel_rfl) ?_
          refine XA.dA 0 rfl rfl rfl (does_move rfl) ?_
          refine XA.dA 1 rfl rfl rfl (does_field (off := 1) (by kernel_rfl) rfl) ?_
          refine XA.dA 2 rfl rfl rfl (does_ld rfl) ?_
          refine XA.dA 3 rfl rfl rfl (does_field (off := 0) (by kernel_rfl) rfl) ?_
          refine XA.dA 4 rfl rfl rfl (does_ld rfl) ?_
          refine XA.next 5 rfl (by kernel_rfl) ?_
          refine xk_callR (f := 58) (fi := []) (ca := []) (by kernel_rfl) rfl rfl (by decide) (fun w1 st => on_any k w1) ?_
          refine XA.bk ?_
          refine XA.next 6 rfl (by kernel_rfl) ?_
          refine xk_at id.toNat id.toNat (el := 4) (sz := 1) (by kernel_rfl) (by kernel_rfl) rfl rfl (by omega) (by omega) (by omega) (by decide) ?_
          refine XA.bt ?_
          refine XA.next 7 rfl (by kernel_rfl) ?_
          refine xk_store 0 rfl (by kernel_rfl) rfl rfl rfl (by simp at hcl; omega) ?_; dsimp only [List.set]
          refine XA.bt ?_
          refine XA.done (by kernel_rfl) ?_
          refine XK.norm ?_
          refine XK.seq ?_
          refine XK.closeOwn 0 (n := x.d.length) (c := c0) (sz := 1) (xs := boolCells (setBL x.d id (decide (onB k)))) rfl (by simpa using hcl) (by rw [Nat.mul_one, ← boolCells_setB _ hin, ← hct1, List.take_set]) hnc hcm ?_
          dsimp only [List.set]

          refine XK.region ?_
          refine xk_ldN 6 rfl ?_
          (first | (refine xk_storeN 0 rfl rfl rfl (by kernel_rfl) (by simp [Value.cells, Value.oneCell']) (by simp [Value.cells]) ?_) | (refine xk_storeN 1 rfl rfl rfl (by kernel_rfl) (by simp [Value.cells, Value.oneCell']) (by simp [Value.cells]) ?_) | (refine xk_storeN 2 rfl rfl rfl (by kernel_rfl) (by simp [Value.cells, Value.oneCell']) (by simp [Value.cells]) ?_) | (refine xk_storeN 3 rfl rfl rfl (by kernel_rfl) (by simp [Value.cells, Value.oneCell']) (by simp [Value.cells]) ?_) | (refine xk_storeN 4 rfl rfl rfl (by kernel_rfl) (by simp [Value.cells, Value.oneCell']) (by simp [Value.cells]) ?_) | (refine xk_storeN 5 rfl rfl rfl (by kernel_rfl) (by simp [Value.cells, Value.oneCell']) (by simp [Value.cells]) ?_) | (refine xk_storeN 6 rfl rfl rfl (by kernel_rfl) (by simp [Value.cells, Value.oneCell']) (by simp [Value.cells]) ?_) | (refine xk_storeN 7 rfl rfl rfl (by kernel_rfl) (by simp [Value.cells, Value.oneCell']) (by simp [Value.cells]) ?_) | (refine xk_storeN 8 rfl rfl rfl (by kernel_rfl) (by simp [Value.cells, Value.oneCell']) (by simp [Value.cells]) ?_)); simp only [putN, Value.cells, List.set, List.take, List.drop, List.nil_append, List.append_nil, List.length_cons, List.length_nil, List.cons_append, Nat.reduceAdd]
          refine XK.nilN ?_
          refine XK.ret ?_
          refine XK.norm ?_
          have hdx : doneX x 0 k id = ⟨(setBL x.d id (decide (onB k))), x.c, x.l⟩ := by simp [doneX, setW, hk]
          have hdy : doneY y 0 k id = ⟨y.d, y.c, y.l⟩ := by simp [doneY, setW, hk]
          refine XK.still [] [0, 1, 2, 3, 4, 5] [6, 7, 8, 9] (by simp) rfl (by decide) (by decide) fun q hq _ hfr => ?_
          obtain ⟨F0, sf0, zf0⟩ := hq 0 _ (by simp) rfl
          obtain ⟨A0_, d0_, hB0, hs0⟩ := SlS.of_own (Y := q.Z) sf0 zf0
          injection hB0 with e1 e2 e3
          subst A0_
          obtain ⟨F1, sf1, zf1⟩ := hq 1 _ (by simp) rfl
          obtain ⟨A1_, d1_, hB1, hs1⟩ := SlS.of_own (Y := q.Z) sf1 zf1
          injection hB1 with e1 e2 e3
          subst A1_
          obtain ⟨F2, sf2, zf2⟩ := hq 2 _ (by simp) rfl
          obtain ⟨A2_, d2_, hB2, hs2⟩ := SlS.of_own (Y := q.Z) sf2 zf2
          injection hB2 with e1 e2 e3
          subst A2_
          obtain ⟨F3, sf3, zf3⟩ := hq 3 _ (by simp) rfl
          obtain ⟨A3_, d3_, hB3, hs3⟩ := SlS.of_own (Y := q.Z) sf3 zf3
          injection hB3 with e1 e2 e3
          subst A3_
          obtain ⟨F4, sf4, zf4⟩ := hq 4 _ (by simp) rfl
          obtain ⟨A4_, d4_, hB4, hs4⟩ := SlS.of_own (Y := q.Z) sf4 zf4
          injection hB4 with e1 e2 e3
          subst A4_
          obtain ⟨F5, sf5, zf5⟩ := hq 5 _ (by simp) rfl
          obtain ⟨A5_, d5_, hB5, hs5⟩ := SlS.of_own (Y := q.Z) sf5 zf5
          injection hB5 with e1 e2 e3
          subst A5_
          refine XK.retC rfl (n := 6) (vs := [.slice (some ⟨gb, 0, none⟩) x.d.length c0, .slice B1 x.c.length c1, .slice B2 x.l.length c2, .slice B3 y.d.length c3, .slice B4 y.c.length c4, .slice B5 y.l.length c5]) (by kernel_rfl) rfl rfl (RdN.whole 1 rfl) fun w1 st => ⟨⟨_, rfl, ?_⟩, st.below (by simp)⟩
          have hle := st.fresh_le (by simp) (hfr (by simp) (by simp))
          rw [show doneX x 0 k id = ⟨(setBL x.d id (decide (onB k))), x.c, x.l⟩ from hdx, show doneY y 0 k id = ⟨y.d, y.c, y.l⟩ from hdy]
          exact ⟨(some ⟨gb, 0, none⟩), c0, B1, c1, B2, c2, B3, c3, B4, c4, B5, c5, by simp only [setBL_len], SlS.le (p := q) (by dsimp only; rw [setBL_len]; exact hs0) hle, SlS.le hs1 hle, SlS.le hs2 hle, SlS.le hs3 hle, SlS.le hs4 hle, SlS.le hs5 hle⟩
        ·
          refine XK.skip ?_
          refine XK.norm ?_
          refine XK.seq ?_

          refine XK.region ?_
          refine xk_ldN 6 rfl ?_
          (first | (refine xk_storeN 0 rfl rfl rfl (by kernel_rfl) (by simp [Value.cells, Value.oneCell']) (by simp [Value.cells]) ?_) | (refine xk_storeN 1 rfl rfl rfl (by kernel_rfl) (by simp [Value.cells, Value.oneCell']) (by simp [Value.cells]) ?_) | (refine xk_storeN 2 rfl rfl rfl (by kernel_rfl) (by simp [Value.cells, Value.oneCell']) (by simp [Value.cells]) ?_) | (refine xk_storeN 3 rfl rfl rfl (by kernel_rfl) (by simp [Value.cells, Value.oneCell']) (by simp [Value.cells]) ?_) | (refine xk_storeN 4 rfl rfl rfl (by kernel_rfl) (by simp [Value.cells, Value.oneCell']) (by simp [Value.cells]) ?_) | (refine xk_storeN 5 rfl rfl rfl (by kernel_rfl) (by simp [Value.cells, Value.oneCell']) (by simp [Value.cells]) ?_) | (refine xk_storeN 6 rfl rfl rfl (by kernel_rfl) (by simp [Value.cells, Value.oneCell']) (by simp [Value.cells]) ?_) | (refine xk_storeN 7 rfl rfl rfl (by kernel_rfl) (by simp [Value.cells, Value.oneCell']) (by simp [Value.cells]) ?_) | (refine xk_storeN 8 rfl rfl rfl (by kernel_rfl) (by simp [Value.cells, Value.oneCell']) (by simp [Value.cells]) ?_)); simp only [putN, Value.cells, List.set, List.take, List.drop, List.nil_append, List.append_nil, List.length_cons, List.length_nil, List.cons_append, Nat.reduceAdd]
          refine XK.nilN ?_
          refine XK.ret ?_
          refine XK.norm ?_
          have hdx : doneX x 0 k id = x := by simp [doneX, setW, hk, setBL_out _ hin]
          have hdy : doneY y 0 k id = y := by simp [doneY, setW, hk, setBL_out _ hin]
          refine XK.still [] [0, 1, 2, 3, 4, 5] [6, 7, 8, 9] (by simp) rfl (by decide) (by decide) fun q hq _ hfr => ?_
          obtain ⟨F0, sf0, zf0⟩ := hq 0 _ (by simp) rfl
          obtain ⟨A0_, d0_, hB0, hs0⟩ := SlS.of_own (Y := q.Z) sf0 zf0
          injection hB0 with e1 e2 e3
          subst A0_
          obtain ⟨F1, sf1, zf1⟩ := hq 1 _ (by simp) rfl
          obtain ⟨A1_, d1_, hB1, hs1⟩ := SlS.of_own (Y := q.Z) sf1 zf1
          injection hB1 with e1 e2 e3
          subst A1_
          obtain ⟨F2, sf2, zf2⟩ := hq 2 _ (by simp) rfl
          obtain ⟨A2_, d2_, hB2, hs2⟩ := SlS.of_own (Y := q.Z) sf2 zf2
          injection hB2 with e1 e2 e3
          subst A2_
          obtain ⟨F3, sf3, zf3⟩ := hq 3 _ (by simp) rfl
          obtain ⟨A3_, d3_, hB3, hs3⟩ := SlS.of_own (Y := q.Z) sf3 zf3
          injection hB3 with e1 e2 e3
          subst A3_
          obtain ⟨F4, sf4, zf4⟩ := hq 4 _ (by simp) rfl
          obtain ⟨A4_, d4_, hB4, hs4⟩ := SlS.of_own (Y := q.Z) sf4 zf4
          injection hB4 with e1 e2 e3
          subst A4_
          obtain ⟨F5, sf5, zf5⟩ := hq 5 _ (by simp) rfl
          obtain ⟨A5_, d5_, hB5, hs5⟩ := SlS.of_own (Y := q.Z) sf5 zf5
          injection hB5 with e1 e2 e3
          subst A5_
          refine XK.retC rfl (n := 6) (vs := [.slice B0 x.d.length c0, .slice B1 x.c.length c1, .slice B2 x.l.length c2, .slice B3 y.d.length c3, .slice B4 y.c.length c4, .slice B5 y.l.length c5]) (by kernel_rfl) rfl rfl (RdN.whole 1 rfl) fun w1 st => ⟨⟨_, rfl, ?_⟩, st.below (by simp)⟩
          have hle := st.fresh_le (by simp) (hfr (by simp) (by simp))
          rw [show doneX x 0 k id = x from hdx, show doneY y 0 k id = y from hdy]
          exact ⟨B0, c0, B1, c1, B2, c2, B3, c3, B4, c4, B5, c5, rfl, SlS.le hs0 hle, SlS.le hs1 hle, SlS.le hs2 hle, SlS.le hs3 hle, SlS.le hs4 hle, SlS.le hs5 hle⟩
      · skip

        refine XK.draw 5 (by kernel_rfl) (by kernel_rfl) ?_
        refine XA.dA 0 rfl rfl rfl (does_move rfl) ?_
        refine XA.dA 1 rfl rfl rfl (does_field (off := 0) (by kernel_rfl) rfl) ?_
        refine XA.dA 2 rfl rfl rfl (does_atA 0 0 (n := 2) (el := 56) (sz := 3) (by kernel_rfl) (by kernel_rfl) rfl rfl (by omega) (by omega) (by omega)) ?_
        refine XA.dA 3 rfl rfl rfl (does_field (off := 0) (by kernel_rfl) rfl) ?_
        refine XA.dA 4 rfl rfl rfl (does_ld rfl) ?_
        refine XA.next 5 rfl (by kernel_rfl) ?_
        refine xk_callR (f := 62) (fi := []) (ca := []) (by kernel_rfl) rfl rfl (by decide) (v0 := .slice B1 x.c.length c1) (fun w1 st => (list_any g4 0 k (.slice B0 x.d.length c0) (.slice B1 x.c.length c1) (.slice B2 x.l.length c2) w1 (by simpa using (st.box (i := 6) rfl).at_ (j := 0) rfl) (by simpa using (st.box (i := 6) rfl).at_ (j := 1) rfl) (by simpa using (st.box (i := 6) rfl).at_ (j := 2) rfl)).mono fun _ _ h => Rt.conv h (by simp [listV, hk])) ?_
        refine XA.bt ?_
        refine XA.next 6 rfl (by kernel_rfl) ?_
        refine xk_assign rfl (by decide) ?_
        refine XA.bt ?_
        refine XA.done (by kernel_rfl) ?_
        refine XK.norm ?_
        refine XK.cutB 53 (0 ≤ id ∧ id < (x.c.length : Int)) ?_ ?_
        · skip

          refine XK.region ?_
          refine xk_field (off := 1) (by kernel_rfl) rfl (by decide) ?_
          refine xk_ld rfl ?_
          refine xk_geq rfl rfl (by decide) ?_
          refine xk_move rfl (by decide) ?_
          (first | refine xk_split (t := 47) rfl (fun hg => ?_) (fun hg => ?_) | refine xk_splitB (t := 47) rfl (fun hg => ?_) (fun hg => ?_))
          ·
            refine xk_guardT rfl rfl ?_; refine xk_field (off := 1) (by kernel_rfl) rfl (by decide) ?_
            refine xk_guardT rfl rfl ?_; refine xk_ld rfl ?_
            refine xk_guardT rfl rfl ?_; refine xk_move rfl (by decide) ?_
            refine xk_guardT rfl rfl ?_; refine xk_len (el := 4) (by kernel_rfl) rfl (by decide) ?_
            refine xk_guardT rfl rfl ?_; refine xk_lss rfl rfl (by decide) ?_
            (first | refine xk_pickT rfl rfl (by decide) ?_ | refine xk_pickF rfl rfl (by decide) ?_)
            refine XK.nilN ?_
            exact XK.meetB (by repeat (first | exact trivial | refine ⟨rfl, ?_⟩)) (by first | (refine get_iff rfl ?_; omega) | (refine get_iff rfl ?_; simp_all; done) | (refine get_false rfl ?_; first | omega | (simp_all; done)) | (refine get_true rfl ?_; first | omega | (simp_all; done)) | (refine get_bool rfl ?_; simp_all; done) | (refine get_iff rfl ⟨fun hh => ?_, fun hh => ?_⟩ <;> first | omega | (simp_all; done) | (simp_all; omega)) | (exfalso; omega))
          ·
            refine xk_guardF rfl rfl rfl (by decide) ?_
            refine xk_guardF rfl rfl rfl (by decide) ?_
            refine xk_guardF rfl rfl rfl (by decide) ?_
            refine xk_guardF rfl rfl rfl (by decide) ?_
            refine xk_guardF rfl rfl rfl (by decide) ?_
            (first | refine xk_pickT rfl rfl (by decide) ?_ | refine xk_pickF rfl rfl (by decide) ?_)
            refine XK.nilN ?_
            exact XK.meetB (by repeat (first | exact trivial | refine ⟨rfl, ?_⟩)) (by first | (refine get_iff rfl ?_; omega) | (refine get_iff rfl ?_; simp_all; done) | (refine get_false rfl ?_; first | omega | (simp_all; done)) | (refine get_true rfl ?_; first | omega | (simp_all; done)) | (refine get_bool rfl ?_; simp_all; done) | (refine get_iff rfl ⟨fun hh => ?_, fun hh => ?_⟩ <;> first | omega | (simp_all; done) | (simp_all; omega)) | (exfalso; omega))
        refine XK.if_ rfl (fun hin => ?_) (fun hin => ?_)
        ·
          refine XK.ownAt 1 rfl (by omega) ?_
          rintro ⟨gb, rfl⟩
          refine XK.openOwn 1 rfl fun cs hcl hct hnc hcm => ?_
          dsimp only [List.set]
          have hct1 : cs.take x.c.length = boolCells x.c := by simpa using hct

          refine XK.draw 6 (by kernel_rfl) (by kernel_rfl) ?_
          refine XA.dA 0 rfl rfl rfl (does_move rfl) ?_
          refine XA.dA 1 rfl rfl rfl (does_field (off := 1) (by kernel_rfl) rfl) ?_
          refine XA.dA 2 rfl rfl rfl (does_ld rfl) ?_
          refine XA.dA 3 rfl rfl rfl (does_field (off := 0) (by kernel_rfl) rfl) ?_
          refine XA.dA 4 rfl rfl rfl (does_ld rfl) ?_
          refine XA.next 5 rfl (by kernel_rfl) ?_
          refine xk_callR (f := 58) (fi := []) (ca := []) (by kernel_rfl) rfl rfl (by decide) (fun w1 st => on_any k w1) ?_
          refine XA.bk ?_
          refine XA.next 6 rfl (by kernel_rfl) ?_
          refine xk_at id.toNat id.toNat (el := 4) (sz := 1) (by kernel_rfl) (by kernel_rfl) rfl rfl (by omega) (by omega) (by omega) (by decide) ?_
          refine XA.bt ?_
          refine XA.next 7 rfl (by kernel_rfl) ?_
          refine xk_store 1 rfl (by kernel_rfl) rfl rfl rfl (by simp at hcl; omega) ?_; dsimp only [List.set]
          refine XA.bt ?_
          refine XA.done (by kernel_rfl) ?_
          refine XK.norm ?_
          refine XK.seq ?_
          refine XK.closeOwn 1 (n := x.c.length) (c := c1) (sz := 1) (xs := boolCells (setBL x.c id (decide (onB k)))) rfl (by simpa using hcl) (by rw [Nat.mul_one, ← boolCells_setB _ hin, ← hct1, List.take_set]) hnc hcm ?_
          dsimp only [List.set]

          refine XK.region ?_
          refine xk_ldN 6 rfl ?_
          (first | (refine xk_storeN 0 rfl rfl rfl (by kernel_rfl) (by simp [Value.cells, Value.oneCell']) (by simp [Value.cells]) ?_) | (refine xk_storeN 1 rfl rfl rfl (by kernel_rfl) (by simp [Value.cells, Value.oneCell']) (by simp [Value.cells]) ?_) | (refine xk_storeN 2 rfl rfl rfl (by kernel_rfl) (by simp [Value.cells, Value.oneCell']) (by simp [Value.cells]) ?_) | (refine xk_storeN 3 rfl rfl rfl (by kernel_rfl) (by simp [Value.cells, Value.oneCell']) (by simp [Value.cells]) ?_) | (refine xk_storeN 4 rfl rfl rfl (by kernel_rfl) (by simp [Value.cells, Value.oneCell']) (by simp [Value.cells]) ?_) | (refine xk_storeN 5 rfl rfl rfl (by kernel_rfl) (by simp [Value.cells, Value.oneCell']) (by simp [Value.cells]) ?_) | (refine xk_storeN 6 rfl rfl rfl (by kernel_rfl) (by simp [Value.cells, Value.oneCell']) (by simp [Value.cells]) ?_) | (refine xk_storeN 7 rfl rfl rfl (by kernel_rfl) (by simp [Value.cells, Value.oneCell']) (by simp [Value.cells]) ?_) | (refine xk_storeN 8 rfl rfl rfl (by kernel_rfl) (by simp [Value.cells, Value.oneCell']) (by simp [Value.cells]) ?_)); simp only [putN, Value.cells, List.set, List.take, List.drop, List.nil_append, List.append_nil, List.length_cons, List.length_nil, List.cons_append, Nat.reduceAdd]
          refine XK.nilN ?_
          refine XK.ret ?_
          refine XK.norm ?_
          have hdx : doneX x 0 k id = ⟨x.d, (setBL x.c id (decide (onB k))), x.l⟩ := by simp [doneX, setW, hk]
          have hdy : doneY y 0 k id = ⟨y.d, y.c, y.l⟩ := by simp [doneY, setW, hk]
          refine XK.still [] [0, 1, 2, 3, 4, 5] [6, 7, 8, 9] (by simp) rfl (by decide) (by decide) fun q hq _ hfr => ?_
          obtain ⟨F0, sf0, zf0⟩ := hq 0 _ (by simp) rfl
          obtain ⟨A0_, d0_, hB0, hs0⟩ := SlS.of_own (Y := q.Z) sf0 zf0
          injection hB0 with e1 e2 e3
          subst A0_
          obtain ⟨F1, sf1, zf1⟩ := hq 1 _ (by simp) rfl
          obtain ⟨A1_, d1_, hB1, hs1⟩ := SlS.of_own (Y := q.Z) sf1 zf1
          injection hB1 with e1 e2 e3
          subst A1_
          obtain ⟨F2, sf2, zf2⟩ := hq 2 _ (by simp) rfl
          obtain ⟨A2_, d2_, hB2, hs2⟩ := SlS.of_own (Y := q.Z) sf2 zf2
          injection hB2 with e1 e2 e3
          subst A2_
          obtain ⟨F3, sf3, zf3⟩ := hq 3 _ (by simp) rfl
          obtain ⟨A3_, d3_, hB3, hs3⟩ := SlS.of_own (Y := q.Z) sf3 zf3
          injection hB3 with e1 e2 e3
          subst A3_
          obtain ⟨F4, sf4, zf4⟩ := hq 4 _ (by simp) rfl
          obtain ⟨A4_, d4_, hB4, hs4⟩ := SlS.of_own (Y := q.Z) sf4 zf4
          injection hB4 with e1 e2 e3
          subst A4_
          obtain ⟨F5, sf5, zf5⟩ := hq 5 _ (by simp) rfl
          obtain ⟨A5_, d5_, hB5, hs5⟩ := SlS.of_own (Y := q.Z) sf5 zf5
          injection hB5 with e1 e2 e3
          subst A5_
          refine XK.retC rfl (n := 6) (vs := [.slice B0 x.d.length c0, .slice (some ⟨gb, 0, none⟩) x.c.length c1, .slice B2 x.l.length c2, .slice B3 y.d.length c3, .slice B4 y.c.length c4, .slice B5 y.l.length c5]) (by kernel_rfl) rfl rfl (RdN.whole 1 rfl) fun w1 st => ⟨⟨_, rfl, ?_⟩, st.below (by simp)⟩
          have hle := st.fresh_le (by simp) (hfr (by simp) (by simp))
          rw [show doneX x 0 k id = ⟨x.d, (setBL x.c id (decide (onB k))), x.l⟩ from hdx, show doneY y 0 k id = ⟨y.d, y.c, y.l⟩ from hdy]
          exact ⟨B0, c0, (some ⟨gb, 0, none⟩), c1, B2, c2, B3, c3, B4, c4, B5, c5, by simp only [setBL_len], SlS.le hs0 hle, SlS.le (p := q) (by dsimp only; rw [setBL_len]; exact hs1) hle, SlS.le hs2 hle, SlS.le hs3 hle, SlS.le hs4 hle, SlS.le hs5 hle⟩
        ·
          refine XK.skip ?_
          refine XK.norm ?_
          refine XK.seq ?_

          refine XK.region ?_
          refine xk_ldN 6 rfl ?_
          (first | (refine xk_storeN 0 rfl rfl rfl (by kernel_rfl) (by simp [Value.cells, Value.oneCell']) (by simp [Value.cells]) ?_) | (refine xk_storeN 1 rfl rfl rfl (by kernel_rfl) (by simp [Value.cells, Value.oneCell']) (by simp [Value.cells]) ?_) | (refine xk_storeN 2 rfl rfl rfl (by kernel_rfl) (by simp [Value.cells, Value.oneCell']) (by simp [Value.cells]) ?_) | (refine xk_storeN 3 rfl rfl rfl (by kernel_rfl) (by simp [Value.cells, Value.oneCell']) (by simp [Value.cells]) ?_) | (refine xk_storeN 4 rfl rfl rfl (by kernel_rfl) (by simp [Value.cells, Value.oneCell']) (by simp [Value.cells]) ?_) | (refine xk_storeN 5 rfl rfl rfl (by kernel_rfl) (by simp [Value.cells, Value.oneCell']) (by simp [Value.cells]) ?_) | (refine xk_storeN 6 rfl rfl rfl (by kernel_rfl) (by simp [Value.cells, Value.oneCell']) (by simp [Value.cells]) ?_) | (refine xk_storeN 7 rfl rfl rfl (by kernel_rfl) (by simp [Value.cells, Value.oneCell']) (by simp [Value.cells]) ?_) | (refine xk_storeN 8 rfl rfl rfl (by kernel_rfl) (by simp [Value.cells, Value.oneCell']) (by simp [Value.cells]) ?_)); simp only [putN, Value.cells, List.set, List.take, List.drop, List.nil_append, List.append_nil, List.length_cons, List.length_nil, List.cons_append, Nat.reduceAdd]
          refine XK.nilN ?_
          refine XK.ret ?_
          refine XK.norm ?_
          have hdx : doneX x 0 k id = x := by simp [doneX, setW, hk, setBL_out _ hin]
          have hdy : doneY y 0 k id = y := by simp [doneY, setW, hk, setBL_out _ hin]
          refine XK.still [] [0, 1, 2, 3, 4, 5] [6, 7, 8, 9] (by simp) rfl (by decide) (by decide) fun q hq _ hfr => ?_
          obtain ⟨F0, sf0, zf0⟩ := hq 0 _ (by simp) rfl
          obtain ⟨A0_, d0_, hB0, hs0⟩ := SlS.of_own (Y := q.Z) sf0 zf0
          injection hB0 with e1 e2 e3
          subst A0_
          obtain ⟨F1, sf1, zf1⟩ := hq 1 _ (by simp) rfl
          obtain ⟨A1_, d1_, hB1, hs1⟩ := SlS.of_own (Y := q.Z) sf1 zf1
          injection hB1 with e1 e2 e3
          subst A1_
          obtain ⟨F2, sf2, zf2⟩ := hq 2 _ (by simp) rfl
          obtain ⟨A2_, d2_, hB2, hs2⟩ := SlS.of_own (Y := q.Z) sf2 zf2
          injection hB2 with e1 e2 e3
          subst A2_
          obtain ⟨F3, sf3, zf3⟩ := hq 3 _ (by simp) rfl
          obtain ⟨A3_, d3_, hB3, hs3⟩ := SlS.of_own (Y := q.Z) sf3 zf3
          injection hB3 with e1 e2 e3
          subst A3_
          obtain ⟨F4, sf4, zf4⟩ := hq 4 _ (by simp) rfl
          obtain ⟨A4_, d4_, hB4, hs4⟩ := SlS.of_own (Y := q.Z) sf4 zf4
          injection hB4 with e1 e2 e3
          subst A4_
          obtain ⟨F5, sf5, zf5⟩ := hq 5 _ (by simp) rfl
          obtain ⟨A5_, d5_, hB5, hs5⟩ := SlS.of_own (Y := q.Z) sf5 zf5
          injection hB5 with e1 e2 e3
          subst A5_
          refine XK.retC rfl (n := 6) (vs := [.slice B0 x.d.length c0, .slice B1 x.c.length c1, .slice B2 x.l.length c2, .slice B3 y.d.length c3, .slice B4 y.c.length c4, .slice B5 y.l.length c5]) (by kernel_rfl) rfl rfl (RdN.whole 1 rfl) fun w1 st => ⟨⟨_, rfl, ?_⟩, st.below (by simp)⟩
          have hle := st.fresh_le (by simp) (hfr (by simp) (by simp))
          rw [show doneX x 0 k id = x from hdx, show doneY y 0 k id = y from hdy]
          exact ⟨B0, c0, B1, c1, B2, c2, B3, c3, B4, c4, B5, c5, rfl, SlS.le hs0 hle, SlS.le hs1 hle, SlS.le hs2 hle, SlS.le hs3 hle, SlS.le hs4 hle, SlS.le hs5 hle⟩
      · skip

        refine XK.draw 5 (by kernel_rfl) (by kernel_rfl) ?_
        refine XA.dA 0 rfl rfl rfl (does_move rfl) ?_
        refine XA.dA 1 rfl rfl rfl (does_field (off := 0) (by kernel_rfl) rfl) ?_
        refine XA.dA 2 rfl rfl rfl (does_atA 0 0 (n := 2) (el := 56) (sz := 3) (by kernel_rfl) (by kernel_rfl) rfl rfl (by omega) (by omega) (by omega)) ?_
        refine XA.dA 3 rfl rfl rfl (does_field (off := 0) (by kernel_rfl) rfl) ?_
        refine XA.dA 4 rfl rfl rfl (does_ld rfl) ?_
        refine XA.next 5 rfl (by kernel_rfl) ?_
        refine xk_callR (f := 62) (fi := []) (ca := []) (by kernel_rfl) rfl rfl (by decide) (v0 := .slice B2 x.l.length c2) (fun w1 st => (list_any g4 0 k (.slice B0 x.d.length c0) (.slice B1 x.c.length c1) (.slice B2 x.l.length c2) w1 (by simpa using (st.box (i := 6) rfl).at_ (j := 0) rfl) (by simpa using (st.box (i := 6) rfl).at_ (j := 1) rfl) (by simpa using (st.box (i := 6) rfl).at_ (j := 2) rfl)).mono fun _ _ h => Rt.conv h (by simp [listV, hk])) ?_
        refine XA.bt ?_
        refine XA.next 6 rfl (by kernel_rfl) ?_
        refine xk_assign rfl (by decide) ?_
        refine XA.bt ?_
        refine XA.done (by kernel_rfl) ?_
        refine XK.norm ?_
        refine XK.cutB 53 (0 ≤ id ∧ id < (x.l.length : Int)) ?_ ?_
        · skip

          refine XK.region ?_
          refine xk_field (off := 1) (by kernel_rfl) rfl (by decide) ?_
          refine xk_ld rfl ?_
          refine xk_geq rfl rfl (by decide) ?_
          refine xk_move rfl (by decide) ?_
          (first | refine xk_split (t := 47) rfl (fun hg => ?_) (fun hg => ?_) | refine xk_splitB (t := 47) rfl (fun hg => ?_) (fun hg => ?_))
          ·
            refine xk_guardT rfl rfl ?_; refine xk_field (off := 1) (by kernel_rfl) rfl (by decide) ?_
            refine xk_guardT rfl rfl ?_; refine xk_ld rfl ?_
            refine xk_guardT rfl rfl ?_; refine xk_move rfl (by decide) ?_
            refine xk_guardT rfl rfl ?_; refine xk_len (el := 4) (by kernel_rfl) rfl (by decide) ?_
            refine xk_guardT rfl rfl ?_; refine xk_lss rfl rfl (by decide) ?_
            (first | refine xk_pickT rfl rfl (by decide) ?_ | refine xk_pickF rfl rfl (by decide) ?_)
            refine XK.nilN ?_
            exact XK.meetB (by repeat (first | exact trivial | refine ⟨rfl, ?_⟩)) (by first | (refine get_iff rfl ?_; omega) | (refine get_iff rfl ?_; simp_all; done) | (refine get_false rfl ?_; first | omega | (simp_all; done)) | (refine get_true rfl ?_; first | omega | (simp_all; done)) | (refine get_bool rfl ?_; simp_all; done) | (refine get_iff rfl ⟨fun hh => ?_, fun hh => ?_⟩ <;> first | omega | (simp_all; done) | (simp_all; omega)) | (exfalso; omega))
          ·
            refine xk_guardF rfl rfl rfl (by decide) ?_
            refine xk_guardF rfl rfl rfl (by decide) ?_
            refine xk_guardF rfl rfl rfl (by decide) ?_
            refine xk_guardF rfl rfl rfl (by decide) ?_
            refine xk_guardF rfl rfl rfl (by decide) ?_
            (first | refine xk_pickT rfl rfl (by decide) ?_ | refine xk_pickF rfl rfl (by decide) ?_)
            refine XK.nilN ?_
            exact XK.meetB (by repeat (first | exact trivial | refine ⟨rfl, ?_⟩)) (by first | (refine get_iff rfl ?_; omega) | (refine get_iff rfl ?_; simp_all; done) | (refine get_false rfl ?_; first | omega | (simp_all; done)) | (refine get_true rfl ?_; first | omega | (simp_all; done)) | (refine get_bool rfl ?_; simp_all; done) | (refine get_iff rfl ⟨fun hh => ?_, fun hh => ?_⟩ <;> first | omega | (simp_all; done) | (simp_all; omega)) | (exfalso; omega))
        refine XK.if_ rfl (fun hin => ?_) (fun hin => ?_)
        ·
          refine XK.ownAt 2 rfl (by omega) ?_
          rintro ⟨gb, rfl⟩
          refine XK.openOwn 2 rfl fun cs hcl hct hnc hcm => ?_
          dsimp only [List.set]
          have hct1 : cs.take x.l.length = boolCells x.l := by simpa using hct

          refine XK.draw 6 (by kernel_rfl) (by kernel_rfl) ?_
          refine XA.dA 0 rfl rfl rfl (does_move rfl) ?_
          refine XA.dA 1 rfl rfl rfl (does_field (off := 1) (by kernel_rfl) rfl) ?_
          refine XA.dA 2 rfl rfl rfl (does_ld rfl) ?_
          refine XA.dA 3 rfl rfl rfl (does_field (off := 0) (by kernel_rfl) rfl) ?_
          refine XA.dA 4 rfl rfl rfl (does_ld rfl) ?_
          refine XA.next 5 rfl (by kernel_rfl) ?_
          refine xk_callR (f := 58) (fi := []) (ca := []) (by kernel_rfl) rfl rfl (by decide) (fun w1 st => on_any k w1) ?_
          refine XA.bk ?_
          refine XA.next 6 rfl (by kernel_rfl) ?_
          refine xk_at id.toNat id.toNat (el := 4) (sz := 1) (by kernel_rfl) (by kernel_rfl) rfl rfl (by omega) (by omega) (by omega) (by decide) ?_
          refine XA.bt ?_
          refine XA.next 7 rfl (by kernel_rfl) ?_
          refine xk_store 2 rfl (by kernel_rfl) rfl rfl rfl (by simp at hcl; omega) ?_; dsimp only [List.set]
          refine XA.bt ?_
          refine XA.done (by kernel_rfl) ?_
          refine XK.norm ?_
          refine XK.seq ?_
          refine XK.closeOwn 2 (n := x.l.length) (c := c2) (sz := 1) (xs := boolCells (setBL x.l id (decide (onB k)))) rfl (by simpa using hcl) (by rw [Nat.mul_one, ← boolCells_setB _ hin, ← hct1, List.take_set]) hnc hcm ?_
          dsimp only [List.set]

          refine XK.region ?_
          refine xk_ldN 6 rfl ?_
          (first | (refine xk_storeN 0 rfl rfl rfl (by kernel_rfl) (by simp [Value.cells, Value.oneCell']) (by simp [Value.cells]) ?_) | (refine xk_storeN 1 rfl rfl rfl (by kernel_rfl) (by simp [Value.cells, Value.oneCell']) (by simp [Value.cells]) ?_) | (refine xk_storeN 2 rfl rfl rfl (by kernel_rfl) (by simp [Value.cells, Value.oneCell']) (by simp [Value.cells]) ?_) | (refine xk_storeN 3 rfl rfl rfl (by kernel_rfl) (by simp [Value.cells, Value.oneCell']) (by simp [Value.cells]) ?_) | (refine xk_storeN 4 rfl rfl rfl (by kernel_rfl) (by simp [Value.cells, Value.oneCell']) (by simp [Value.cells]) ?_) | (refine xk_storeN 5 rfl rfl rfl (by kernel_rfl) (by simp [Value.cells, Value.oneCell']) (by simp [Value.cells]) ?_) | (refine xk_storeN 6 rfl rfl rfl (by kernel_rfl) (by simp [Value.cells, Value.oneCell']) (by simp [Value.cells]) ?_) | (refine xk_storeN 7 rfl rfl rfl (by kernel_rfl) (by simp [Value.cells, Value.oneCell']) (by simp [Value.cells]) ?_) | (refine xk_storeN 8 rfl rfl rfl (by kernel_rfl) (by simp [Value.cells, Value.oneCell']) (by simp [Value.cells]) ?_)); simp only [putN, Value.cells, List.set, List.take, List.drop, List.nil_append, List.append_nil, List.length_cons, List.length_nil, List.cons_append, Nat.reduceAdd]
          refine XK.nilN ?_
          refine XK.ret ?_
          refine XK.norm ?_
          have hdx : doneX x 0 k id = ⟨x.d, x.c, (setBL x.l id (decide (onB k)))⟩ := by simp [doneX, setW, hk]
          have hdy : doneY y 0 k id = ⟨y.d, y.c, y.l⟩ := by simp [doneY, setW, hk]
          refine XK.still [] [0, 1, 2, 3, 4, 5] [6, 7, 8, 9] (by simp) rfl (by decide) (by decide) fun q hq _ hfr => ?_
          obtain ⟨F0, sf0, zf0⟩ := hq 0 _ (by simp) rfl
          obtain ⟨A0_, d0_, hB0, hs0⟩ := SlS.of_own (Y := q.Z) sf0 zf0
          injection hB0 with e1 e2 e3
          subst A0_
          obtain ⟨F1, sf1, zf1⟩ := hq 1 _ (by simp) rfl
          obtain ⟨A1_, d1_, hB1, hs1⟩ := SlS.of_own (Y := q.Z) sf1 zf1
          injection hB1 with e1 e2 e3
          subst A1_
          obtain ⟨F2, sf2, zf2⟩ := hq 2 _ (by simp) rfl
          obtain ⟨A2_, d2_, hB2, hs2⟩ := SlS.of_own (Y := q.Z) sf2 zf2
          injection hB2 with e1 e2 e3
          subst A2_
          obtain ⟨F3, sf3, zf3⟩ := hq 3 _ (by simp) rfl
          obtain ⟨A3_, d3_, hB3, hs3⟩ := SlS.of_own (Y := q.Z) sf3 zf3
          injection hB3 with e1 e2 e3
          subst A3_
          obtain ⟨F4, sf4, zf4⟩ := hq 4 _ (by simp) rfl
          obtain ⟨A4_, d4_, hB4, hs4⟩ := SlS.of_own (Y := q.Z) sf4 zf4
          injection hB4 with e1 e2 e3
          subst A4_
          obtain ⟨F5, sf5, zf5⟩ := hq 5 _ (by simp) rfl
          obtain ⟨A5_, d5_, hB5, hs5⟩ := SlS.of_own (Y := q.Z) sf5 zf5
          injection hB5 with e1 e2 e3
          subst A5_
          refine XK.retC rfl (n := 6) (vs := [.slice B0 x.d.length c0, .slice B1 x.c.length c1, .slice (some ⟨gb, 0, none⟩) x.l.length c2, .slice B3 y.d.length c3, .slice B4 y.c.length c4, .slice B5 y.l.length c5]) (by kernel_rfl) rfl rfl (RdN.whole 1 rfl) fun w1 st => ⟨⟨_, rfl, ?_⟩, st.below (by simp)⟩
          have hle := st.fresh_le (by simp) (hfr (by simp) (by simp))
          rw [show doneX x 0 k id = ⟨x.d, x.c, (setBL x.l id (decide (onB k)))⟩ from hdx, show doneY y 0 k id = ⟨y.d, y.c, y.l⟩ from hdy]
          exact ⟨B0, c0, B1, c1, (some ⟨gb, 0, none⟩), c2, B3, c3, B4, c4, B5, c5, by simp only [setBL_len], SlS.le hs0 hle, SlS.le hs1 hle, SlS.le (p := q) (by dsimp only; rw [setBL_len]; exact hs2) hle, SlS.le hs3 hle, SlS.le hs4 hle, SlS.le hs5 hle⟩
        ·
          refine XK.skip ?_
          refine XK.norm ?_
          refine XK.seq ?_

          refine XK.region ?_
          refine xk_ldN 6 rfl ?_
          (first | (refine xk_storeN 0 rfl rfl rfl (by kernel_rfl) (by simp [Value.cells, Value.oneCell']) (by simp [Value.cells]) ?_) | (refine xk_storeN 1 rfl rfl rfl (by kernel_rfl) (by simp [Value.cells, Value.oneCell']) (by simp [Value.cells]) ?_) | (refine xk_storeN 2 rfl rfl rfl (by kernel_rfl) (by simp [Value.cells, Value.oneCell']) (by simp [Value.cells]) ?_) | (refine xk_storeN 3 rfl rfl rfl (by kernel_rfl) (by simp [Value.cells, Value.oneCell']) (by simp [Value.cells]) ?_) | (refine xk_storeN 4 rfl rfl rfl (by kernel_rfl) (by simp [Value.cells, Value.oneCell']) (by simp [Value.cells]) ?_) | (refine xk_storeN 5 rfl rfl rfl (by kernel_rfl) (by simp [Value.cells, Value.oneCell']) (by simp [Value.cells]) ?_) | (refine xk_storeN 6 rfl rfl rfl (by kernel_rfl) (by simp [Value.cells, Value.oneCell']) (by simp [Value.cells]) ?_) | (refine xk_storeN 7 rfl rfl rfl (by kernel_rfl) (by simp [Value.cells, Value.oneCell']) (by simp [Value.cells]) ?_) | (refine xk_storeN 8 rfl rfl rfl (by kernel_rfl) (by simp [Value.cells, Value.oneCell']) (by simp [Value.cells]) ?_)); simp only [putN, Value.cells, List.set, List.take, List.drop, List.nil_append, List.append_nil, List.length_cons, List.length_nil, List.cons_append, Nat.reduceAdd]
          refine XK.nilN ?_
          refine XK.ret ?_
          refine XK.norm ?_
          have hdx : doneX x 0 k id = x := by simp [doneX, setW, hk, setBL_out _ hin]
          have hdy : doneY y 0 k id = y := by simp [doneY, setW, hk, setBL_out _ hin]
          refine XK.still [] [0, 1, 2, 3, 4, 5] [6, 7, 8, 9] (by simp) rfl (by decide) (by decide) fun q hq _ hfr => ?_
          obtain ⟨F0, sf0, zf0⟩ := hq 0 _ (by simp) rfl
          obtain ⟨A0_, d0_, hB0, hs0⟩ := SlS.of_own (Y := q.Z) sf0 zf0
          injection hB0 with e1 e2 e3
          subst A0_
          obtain ⟨F1, sf1, zf1⟩ := hq 1 _ (by simp) rfl
          obtain ⟨A1_, d1_, hB1, hs1⟩ := SlS.of_own (Y := q.Z) sf1 zf1
          injection hB1 with e1 e2 e3
          subst A1_
          obtain ⟨F2, sf2, zf2⟩ := hq 2 _ (by simp) rfl
          obtain ⟨A2_, d2_, hB2, hs2⟩ := SlS.of_own (Y := q.Z) sf2 zf2
          injection hB2 with e1 e2 e3
          subst A2_
          obtain ⟨F3, sf3, zf3⟩ := hq 3 _ (by simp) rfl
          obtain ⟨A3_, d3_, hB3, hs3⟩ := SlS.of_own (Y := q.Z) sf3 zf3
          injection hB3 with e1 e2 e3
          subst A3_
          obtain ⟨F4, sf4, zf4⟩ := hq 4 _ (by simp) rfl
          obtain ⟨A4_, d4_, hB4, hs4⟩ := SlS.of_own (Y := q.Z) sf4 zf4
          injection hB4 with e1 e2 e3
          subst A4_
          obtain ⟨F5, sf5, zf5⟩ := hq 5 _ (by simp) rfl
          obtain ⟨A5_, d5_, hB5, hs5⟩ := SlS.of_own (Y := q.Z) sf5 zf5
          injection hB5 with e1 e2 e3
          subst A5_
          refine XK.retC rfl (n := 6) (vs := [.slice B0 x.d.length c0, .slice B1 x.c.length c1, .slice B2 x.l.length c2, .slice B3 y.d.length c3, .slice B4 y.c.length c4, .slice B5 y.l.length c5]) (by kernel_rfl) rfl rfl (RdN.whole 1 rfl) fun w1 st => ⟨⟨_, rfl, ?_⟩, st.below (by simp)⟩
          have hle := st.fresh_le (by simp) (hfr (by simp) (by simp))
          rw [show doneX x 0 k id = x from hdx, show doneY y 0 k id = y from hdy]
          exact ⟨B0, c0, B1, c1, B2, c2, B3, c3, B4, c4, B5, c5, rfl, SlS.le hs0 hle, SlS.le hs1 hle, SlS.le hs2 hle, SlS.le hs3 hle, SlS.le hs4 hle, SlS.le hs5 hle⟩
      · skip

        refine XK.draw 5 (by kernel_rfl) (by kernel_rfl) ?_
        refine XA.dA 0 rfl rfl rfl (does_move rfl) ?_
        refine XA.dA 1 rfl rfl rfl (does_field (off := 0) (by kernel_rfl) rfl) ?_
        refine XA.dA 2 rfl rfl rfl (does_atA 0 0 (n := 2) (el := 56) (sz := 3) (by kernel_rfl) (by kernel_rfl) rfl rfl (by omega) (by omega) (by omega)) ?_
        refine XA.dA 3 rfl rfl rfl (does_field (off := 0) (by kernel_rfl) rfl) ?_
        refine XA.dA 4 rfl rfl rfl (does_ld rfl) ?_
        refine XA.next 5 rfl (by kernel_rfl) ?_
        refine xk_callR (f := 62) (fi := []) (ca := []) (by kernel_rfl) rfl rfl (by decide) (v0 := .slice none 0 0) (fun w1 st => (list_any g4 0 k (.slice B0 x.d.length c0) (.slice B1 x.c.length c1) (.slice B2 x.l.length c2) w1 (by simpa using (st.box (i := 6) rfl).at_ (j := 0) rfl) (by simpa using (st.box (i := 6) rfl).at_ (j := 1) rfl) (by simpa using (st.box (i := 6) rfl).at_ (j := 2) rfl)).mono fun _ _ h => Rt.conv h (by simp [listV, hk])) ?_
        refine XA.bt ?_
        refine XA.next 6 rfl (by kernel_rfl) ?_
        refine xk_assign rfl (by decide) ?_
        refine XA.bt ?_
        refine XA.done (by kernel_rfl) ?_
        refine XK.norm ?_
        refine XK.cutB 53 (0 ≤ id ∧ id < (0 : Int)) ?_ ?_
        · skip

          refine XK.region ?_
          refine xk_field (off := 1) (by kernel_rfl) rfl (by decide) ?_
          refine xk_ld rfl ?_
          refine xk_geq rfl rfl (by decide) ?_
          refine xk_move rfl (by decide) ?_
          (first | refine xk_split (t := 47) rfl (fun hg => ?_) (fun hg => ?_) | refine xk_splitB (t := 47) rfl (fun hg => ?_) (fun hg => ?_))
          ·
            refine xk_guardT rfl rfl ?_; refine xk_field (off := 1) (by kernel_rfl) rfl (by decide) ?_
            refine xk_guardT rfl rfl ?_; refine xk_ld rfl ?_
            refine xk_guardT rfl rfl ?_; refine xk_move rfl (by decide) ?_
            refine xk_guardT rfl rfl ?_; refine xk_len (el := 4) (by kernel_rfl) rfl (by decide) ?_
            refine xk_guardT rfl rfl ?_; refine xk_lss rfl rfl (by decide) ?_
            (first | refine xk_pickT rfl rfl (by decide) ?_ | refine xk_pickF rfl rfl (by decide) ?_)
            refine XK.nilN ?_
            exact XK.meetB (by repeat (first | exact trivial | refine ⟨rfl, ?_⟩)) (by first | (refine get_iff rfl ?_; omega) | (refine get_iff rfl ?_; simp_all; done) | (refine get_false rfl ?_; first | omega | (simp_all; done)) | (refine get_true rfl ?_; first | omega | (simp_all; done)) | (refine get_bool rfl ?_; simp_all; done) | (refine get_iff rfl ⟨fun hh => ?_, fun hh => ?_⟩ <;> first | omega | (simp_all; done) | (simp_all; omega)) | (exfalso; omega))
          ·
            refine xk_guardF rfl rfl rfl (by decide) ?_
            refine xk_guardF rfl rfl rfl (by decide) ?_
            refine xk_guardF rfl rfl rfl (by decide) ?_
            refine xk_guardF rfl rfl rfl (by decide) ?_
            refine xk_guardF rfl rfl rfl (by decide) ?_
            (first | refine xk_pickT rfl rfl (by decide) ?_ | refine xk_pickF rfl rfl (by decide) ?_)
            refine XK.nilN ?_
            exact XK.meetB (by repeat (first | exact trivial | refine ⟨rfl, ?_⟩)) (by first | (refine get_iff rfl ?_; omega) | (refine get_iff rfl ?_; simp_all; done) | (refine get_false rfl ?_; first | omega | (simp_all; done)) | (refine get_true rfl ?_; first | omega | (simp_all; done)) | (refine get_bool rfl ?_; simp_all; done) | (refine get_iff rfl ⟨fun hh => ?_, fun hh => ?_⟩ <;> first | omega | (simp_all; done) | (simp_all; omega)) | (exfalso; omega))
        refine XK.if_ rfl (fun hin => ?_) (fun hin => ?_)
        ·
          exact absurd hin (by omega)
        ·
          refine XK.skip ?_
          refine XK.norm ?_
          refine XK.seq ?_

          refine XK.region ?_
          refine xk_ldN 6 rfl ?_
          (first | (refine xk_storeN 0 rfl rfl rfl (by kernel_rfl) (by simp [Value.cells, Value.oneCell']) (by simp [Value.cells]) ?_) | (refine xk_storeN 1 rfl rfl rfl (by kernel_rfl) (by simp [Value.cells, Value.oneCell']) (by simp [Value.cells]) ?_) | (refine xk_storeN 2 rfl rfl rfl (by kernel_rfl) (by simp [Value.cells, Value.oneCell']) (by simp [Value.cells]) ?_) | (refine xk_storeN 3 rfl rfl rfl (by kernel_rfl) (by simp [Value.cells, Value.oneCell']) (by simp [Value.cells]) ?_) | (refine xk_storeN 4 rfl rfl rfl (by kernel_rfl) (by simp [Value.cells, Value.oneCell']) (by simp [Value.cells]) ?_) | (refine xk_storeN 5 rfl rfl rfl (by kernel_rfl) (by simp [Value.cells, Value.oneCell']) (by simp [Value.cells]) ?_) | (refine xk_storeN 6 rfl rfl rfl (by kernel_rfl) (by simp [Value.cells, Value.oneCell']) (by simp [Value.cells]) ?_) | (refine xk_storeN 7 rfl rfl rfl (by kernel_rfl) (by simp [Value.cells, Value.oneCell']) (by simp [Value.cells]) ?_) | (refine xk_storeN 8 rfl rfl rfl (by kernel_rfl) (by simp [Value.cells, Value.oneCell']) (by simp [Value.cells]) ?_)); simp only [putN, Value.cells, List.set, List.take, List.drop, List.nil_append, List.append_nil, List.length_cons, List.length_nil, List.cons_append, Nat.reduceAdd]
          refine XK.nilN ?_
          refine XK.ret ?_
          refine XK.norm ?_
          have hdx : doneX x 0 k id = x := by simp [doneX, setW, hk]
          have hdy : doneY y 0 k id = y := by simp [doneY, setW, hk]
          refine XK.still [] [0, 1, 2, 3, 4, 5] [6, 7, 8, 9] (by simp) rfl (by decide) (by decide) fun q hq _ hfr => ?_
          obtain ⟨F0, sf0, zf0⟩ := hq 0 _ (by simp) rfl
          obtain ⟨A0_, d0_, hB0, hs0⟩ := SlS.of_own (Y := q.Z) sf0 zf0
          injection hB0 with e1 e2 e3
          subst A0_
          obtain ⟨F1, sf1, zf1⟩ := hq 1 _ (by simp) rfl
          obtain ⟨A1_, d1_, hB1, hs1⟩ := SlS.of_own (Y := q.Z) sf1 zf1
          injection hB1 with e1 e2 e3
          subst A1_
          obtain ⟨F2, sf2, zf2⟩ := hq 2 _ (by simp) rfl
          obtain ⟨A2_, d2_, hB2, hs2⟩ := SlS.of_own (Y := q.Z) sf2 zf2
          injection hB2 with e1 e2 e3
          subst A2_
          obtain ⟨F3, sf3, zf3⟩ := hq 3 _ (by simp) rfl
          obtain ⟨A3_, d3_, hB3, hs3⟩ := SlS.of_own (Y := q.Z) sf3 zf3
          injection hB3 with e1 e2 e3
          subst A3_
          obtain ⟨F4, sf4, zf4⟩ := hq 4 _ (by simp) rfl
          obtain ⟨A4_, d4_, hB4, hs4⟩ := SlS.of_own (Y := q.Z) sf4 zf4
          injection hB4 with e1 e2 e3
          subst A4_
          obtain ⟨F5, sf5, zf5⟩ := hq 5 _ (by simp) rfl
          obtain ⟨A5_, d5_, hB5, hs5⟩ := SlS.of_own (Y := q.Z) sf5 zf5
          injection hB5 with e1 e2 e3
          subst A5_
          refine XK.retC rfl (n := 6) (vs := [.slice B0 x.d.length c0, .slice B1 x.c.length c1, .slice B2 x.l.length c2, .slice B3 y.d.length c3, .slice B4 y.c.length c4, .slice B5 y.l.length c5]) (by kernel_rfl) rfl rfl (RdN.whole 1 rfl) fun w1 st => ⟨⟨_, rfl, ?_⟩, st.below (by simp)⟩
          have hle := st.fresh_le (by simp) (hfr (by simp) (by simp))
          rw [show doneX x 0 k id = x from hdx, show doneY y 0 k id = y from hdy]
          exact ⟨B0, c0, B1, c1, B2, c2, B3, c3, B4, c4, B5, c5, rfl, SlS.le hs0 hle, SlS.le hs1 hle, SlS.le hs2 hle, SlS.le hs3 hle, SlS.le hs4 hle, SlS.le hs5 hle⟩
    · rcases (by by_cases h0 : k = 117 ∨ k = 100 ∨ k = 107 <;> by_cases h1 : k = 99 ∨ k = 111 <;> by_cases h2 : k = 114 ∨ k = 97 <;> simp [h0, h1, h2] : (k = 117 ∨ k = 100 ∨ k = 107) ∨ ((¬ (k = 117 ∨ k = 100 ∨ k = 107)) ∧ (k = 99 ∨ k = 111)) ∨ ((¬ (k = 117 ∨ k = 100 ∨ k = 107)) ∧ (¬ (k = 99 ∨ k = 111)) ∧ (k = 114 ∨ k = 97)) ∨ ((¬ (k = 117 ∨ k = 100 ∨ k = 107)) ∧ (¬ (k = 99 ∨ k = 111)) ∧ (¬ (k = 114 ∨ k = 97)))) with hk | hk | hk | hk
      · skip

        refine XK.draw 5 (by kernel_rfl) (by kernel_rfl) ?_
        refine XA.dA 0 rfl rfl rfl (does_move rfl) ?_
        refine XA.dA 1 rfl rfl rfl (does_field (off := 0) (by kernel_rfl) rfl) ?_
        refine XA.dA 2 rfl rfl rfl (does_atA 1 3 (n := 2) (el := 56) (sz := 3) (by kernel_rfl) (by kernel_rfl) rfl rfl (by omega) (by omega) (by omega)) ?_
        refine XA.dA 3 rfl rfl rfl (does_field (off := 0) (by kernel_rfl) rfl) ?_
        refine XA.dA 4 rfl rfl rfl (does_ld rfl) ?_
        refine XA.next 5 rfl (by kernel_rfl) ?_
        refine xk_callR (f := 62) (fi := []) (ca := []) (by kernel_rfl) rfl rfl (by decide) (v0 := .slice B3 y.d.length c3) (fun w1 st => (list_any g4 3 k (.slice B3 y.d.length c3) (.slice B4 y.c.length c4) (.slice B5 y.l.length c5) w1 (by simpa using (st.box (i := 6) rfl).at_ (j := 3) rfl) (by simpa using (st.box (i := 6) rfl).at_ (j := 4) rfl) (by simpa using (st.box (i := 6) rfl).at_ (j := 5) rfl)).mono fun _ _ h => Rt.conv h (by simp [listV, hk])) ?_
        refine XA.bt ?_
        refine XA.next 6 rfl (by kernel_rfl) ?_
        refine xk_assign rfl (by decide) ?_
        refine XA.bt ?_
        refine XA.done (by kernel_rfl) ?_
        refine XK.norm ?_
        refine XK.cutB 53 (0 ≤ id ∧ id < (y.d.length : Int)) ?_ ?_
        · skip

          refine XK.region ?_
          refine xk_field (off := 1) (by kernel_rfl) rfl (by decide) ?_
          refine xk_ld rfl ?_
          refine xk_geq rfl rfl (by decide) ?_
          refine xk_move rfl (by decide) ?_
          (first | refine xk_split (t := 47) rfl (fun hg => ?_) (fun hg => ?_) | refine xk_splitB (t := 47) rfl (fun hg => ?_) (fun hg => ?_))
          ·
            refine xk_guardT rfl rfl ?_; refine xk_field (off := 1) (by kernel_rfl) rfl (by decide) ?_
            refine xk_guardT rfl rfl ?_; refine xk_ld rfl ?_
            refine xk_guardT rfl rfl ?_; refine xk_move rfl (by decide) ?_
            refine xk_guardT rfl rfl ?_; refine xk_len (el := 4) (by kernel_rfl) rfl (by decide) ?_
            refine xk_guardT rfl rfl ?_; refine xk_lss rfl rfl (by decide) ?_
            (first | refine xk_pickT rfl rfl (by decide) ?_ | refine xk_pickF rfl rfl (by decide) ?_)
            refine XK.nilN ?_
            exact XK.meetB (by repeat (first | exact trivial | refine ⟨rfl, ?_⟩)) (by first | (refine get_iff rfl ?_; omega) | (refine get_iff rfl ?_; simp_all; done) | (refine get_false rfl ?_; first | omega | (simp_all; done)) | (refine get_true rfl ?_; first | omega | (simp_all; done)) | (refine get_bool rfl ?_; simp_all; done) | (refine get_iff rfl ⟨fun hh => ?_, fun hh => ?_⟩ <;> first | omega | (simp_all; done) | (simp_all; omega)) | (exfalso; omega))
          ·
            refine xk_guardF rfl rfl rfl (by decide) ?_
            refine xk_guardF rfl rfl rfl (by decide) ?_
            refine xk_guardF rfl rfl rfl (by decide) ?_
            refine xk_guardF rfl rfl rfl (by decide) ?_
            refine xk_guardF rfl rfl rfl (by decide) ?_
            (first | refine xk_pickT rfl rfl (by decide) ?_ | refine xk_pickF rfl rfl (by decide) ?_)
            refine XK.nilN ?_
            exact XK.meetB (by repeat (first | exact trivial | refine ⟨rfl, ?_⟩)) (by first | (refine get_iff rfl ?_; omega) | (refine get_iff rfl ?_; simp_all; done) | (refine get_false rfl ?_; first | omega | (simp_all; done)) | (refine get_true rfl ?_; first | omega | (simp_all; done)) | (refine get_bool rfl ?_; simp_all; done) | (refine get_iff rfl ⟨fun hh => ?_, fun hh => ?_⟩ <;> first | omega | (simp_all; done) | (simp_all; omega)) | (exfalso; omega))
        refine XK.if_ rfl (fun hin => ?_) (fun hin => ?_)
        ·
          refine XK.ownAt 3 rfl (by omega) ?_
          rintro ⟨gb, rfl⟩
          refine XK.openOwn 3 rfl fun cs hcl hct hnc hcm => ?_
          dsimp only [List.set]
          have hct1 : cs.take y.d.length = boolCells y.d := by simpa using hct

          refine XK.draw 6 (by kernel_rfl) (by kernel_rfl) ?_
          refine XA.dA 0 rfl rfl rfl (does_move rfl) ?_
          refine XA.dA 1 rfl rfl rfl (does_field (off := 1) (by kernel_rfl) rfl) ?_
          refine XA.dA 2 rfl rfl rfl (does_ld rfl) ?_
          refine XA.dA 3 rfl rfl rfl (does_field (off := 0) (by kernel_rfl) rfl) ?_
          refine XA.dA 4 rfl rfl rfl (does_ld rfl) ?_
          refine XA.next 5 rfl (by kernel_rfl) ?_
          refine xk_callR (f := 58) (fi := []) (ca := []) (by kernel_rfl) rfl rfl (by decide) (fun w1 st => on_any k w1) ?_
          refine XA.bk ?_
          refine XA.next 6 rfl (by kernel_rfl) ?_
          refine xk_at id.toNat id.toNat (el := 4) (sz := 1) (by kernel_rfl) (by kernel_rfl) rfl rfl (by omega) (by omega) (by omega) (by decide) ?_
          refine XA.bt ?_
          refine XA.next 7 rfl (by kernel_rfl) ?_
          refine xk_store 3 rfl (by kernel_rfl) rfl rfl rfl (by simp at hcl; omega) ?_; dsimp only [List.set]
          refine XA.bt ?_
          refine XA.done (by kernel_rfl) ?_
          refine XK.norm ?_
          refine XK.seq ?_
          refine XK.closeOwn 3 (n := y.d.length) (c := c3) (sz := 1) (xs := boolCells (setBL y.d id (decide (onB k)))) rfl (by simpa using hcl) (by rw [Nat.mul_one, ← boolCells_setB _ hin, ← hct1, List.take_set]) hnc hcm ?_
          dsimp only [List.set]

          refine XK.region ?_
          refine xk_ldN 6 rfl ?_
          (first | (refine xk_storeN 0 rfl rfl rfl (by kernel_rfl) (by simp [Value.cells, Value.oneCell']) (by simp [Value.cells]) ?_) | (refine xk_storeN 1 rfl rfl rfl (by kernel_rfl) (by simp [Value.cells, Value.oneCell']) (by simp [Value.cells]) ?_) | (refine xk_storeN 2 rfl rfl rfl (by kernel_rfl) (by simp [Value.cells, Value.oneCell']) (by simp [Value.cells]) ?_) | (refine xk_storeN 3 rfl rfl rfl (by kernel_rfl) (by simp [Value.cells, Value.oneCell']) (by simp [Value.cells]) ?_) | (refine xk_storeN 4 rfl rfl rfl (by kernel_rfl) (by simp [Value.cells, Value.oneCell']) (by simp [Value.cells]) ?_) | (refine xk_storeN 5 rfl rfl rfl (by kernel_rfl) (by simp [Value.cells, Value.oneCell']) (by simp [Value.cells]) ?_) | (refine xk_storeN 6 rfl rfl rfl (by kernel_rfl) (by simp [Value.cells, Value.oneCell']) (by simp [Value.cells]) ?_) | (refine xk_storeN 7 rfl rfl rfl (by kernel_rfl) (by simp [Value.cells, Value.oneCell']) (by simp [Value.cells]) ?_) | (refine xk_storeN 8 rfl rfl rfl (by kernel_rfl) (by simp [Value.cells, Value.oneCell']) (by simp [Value.cells]) ?_)); simp only [putN, Value.cells, List.set, List.take, List.drop, List.nil_append, List.append_nil, List.length_cons, List.length_nil, List.cons_append, Nat.reduceAdd]
          refine XK.nilN ?_
          refine XK.ret ?_
          refine XK.norm ?_
          have hdx : doneX x 1 k id = ⟨x.d, x.c, x.l⟩ := by simp [doneX, setW, hk]
          have hdy : doneY y 1 k id = ⟨(setBL y.d id (decide (onB k))), y.c, y.l⟩ := by simp [doneY, setW, hk]
          refine XK.still [] [0, 1, 2, 3, 4, 5] [6, 7, 8, 9] (by simp) rfl (by decide) (by decide) fun q hq _ hfr => ?_
          obtain ⟨F0, sf0, zf0⟩ := hq 0 _ (by simp) rfl
          obtain ⟨A0_, d0_, hB0, hs0⟩ := SlS.of_own (Y := q.Z) sf0 zf0
          injection hB0 with e1 e2 e3
          subst A0_
          obtain ⟨F1, sf1, zf1⟩ := hq 1 _ (by simp) rfl
          obtain ⟨A1_, d1_, hB1, hs1⟩ := SlS.of_own (Y := q.Z) sf1 zf1
          injection hB1 with e1 e2 e3
          subst A1_
          obtain ⟨F2, sf2, zf2⟩ := hq 2 _ (by simp) rfl
          obtain ⟨A2_, d2_, hB2, hs2⟩ := SlS.of_own (Y := q.Z) sf2 zf2
          injection hB2 with e1 e2 e3
          subst A2_
          obtain ⟨F3, sf3, zf3⟩ := hq 3 _ (by simp) rfl
          obtain ⟨A3_, d3_, hB3, hs3⟩ := SlS.of_own (Y := q.Z) sf3 zf3
          injection hB3 with e1 e2 e3
          subst A3_
          obtain ⟨F4, sf4, zf4⟩ := hq 4 _ (by simp) rfl
          obtain ⟨A4_, d4_, hB4, hs4⟩ := SlS.of_own (Y := q.Z) sf4 zf4
          injection hB4 with e1 e2 e3
          subst A4_
          obtain ⟨F5, sf5, zf5⟩ := hq 5 _ (by simp) rfl
          obtain ⟨A5_, d5_, hB5, hs5⟩ := SlS.of_own (Y := q.Z) sf5 zf5
          injection hB5 with e1 e2 e3
          subst A5_
          refine XK.retC rfl (n := 6) (vs := [.slice B0 x.d.length c0, .slice B1 x.c.length c1, .slice B2 x.l.length c2, .slice (some ⟨gb, 0, none⟩) y.d.length c3, .slice B4 y.c.length c4, .slice B5 y.l.length c5]) (by kernel_rfl) rfl rfl (RdN.whole 1 rfl) fun w1 st => ⟨⟨_, rfl, ?_⟩, st.below (by simp)⟩
          have hle := st.fresh_le (by simp) (hfr (by simp) (by simp))
          rw [show doneX x 1 k id = ⟨x.d, x.c, x.l⟩ from hdx, show doneY y 1 k id = ⟨(setBL y.d id (decide (onB k))), y.c, y.l⟩ from hdy]
          exact ⟨B0, c0, B1, c1, B2, c2, (some ⟨gb, 0, none⟩), c3, B4, c4, B5, c5, by simp only [setBL_len], SlS.le hs0 hle, SlS.le hs1 hle, SlS.le hs2 hle, SlS.le (p := q) (by dsimp only; rw [setBL_len]; exact hs3) hle, SlS.le hs4 hle, SlS.le hs5 hle⟩
        ·
          refine XK.skip ?_
          refine XK.norm ?_
          refine XK.seq ?_

          refine XK.region ?_
          refine xk_ldN 6 rfl ?_
          (first | (refine xk_storeN 0 rfl rfl rfl (by kernel_rfl) (by simp [Value.cells, Value.oneCell']) (by simp [Value.cells]) ?_) | (refine xk_storeN 1 rfl rfl rfl (by kernel_rfl) (by simp [Value.cells, Value.oneCell']) (by simp [Value.cells]) ?_) | (refine xk_storeN 2 rfl rfl rfl (by kernel_rfl) (by simp [Value.cells, Value.oneCell']) (by simp [Value.cells]) ?_) | (refine xk_storeN 3 rfl rfl rfl (by kernel_rfl) (by simp [Value.cells, Value.oneCell']) (by simp [Value.cells]) ?_) | (refine xk_storeN 4 rfl rfl rfl (by kernel_rfl) (by simp [Value.cells, Value.oneCell']) (by simp [Value.cells]) ?_) | (refine xk_storeN 5 rfl rfl rfl (by kernel_rfl) (by simp [Value.cells, Value.oneCell']) (by simp [Value.cells]) ?_) | (refine xk_storeN 6 rfl rfl rfl (by kernel_rfl) (by simp [Value.cells, Value.oneCell']) (by simp [Value.cells]) ?_) | (refine xk_storeN 7 rfl rfl rfl (by kernel_rfl) (by simp [Value.cells, Value.oneCell']) (by simp [Value.cells]) ?_) | (refine xk_storeN 8 rfl rfl rfl (by kernel_rfl) (by simp [Value.cells, Value.oneCell']) (by simp [Value.cells]) ?_)); simp only [putN, Value.cells, List.set, List.take, List.drop, List.nil_append, List.append_nil, List.length_cons, List.length_nil, List.cons_append, Nat.reduceAdd]
          refine XK.nilN ?_
          refine XK.ret ?_
          refine XK.norm ?_
          have hdx : doneX x 1 k id = x := by simp [doneX, setW, hk, setBL_out _ hin]
          have hdy : doneY y 1 k id = y := by simp [doneY, setW, hk, setBL_out _ hin]
          refine XK.still [] [0, 1, 2, 3, 4, 5] [6, 7, 8, 9] (by simp) rfl (by decide) (by decide) fun q hq _ hfr => ?_
          obtain ⟨F0, sf0, zf0⟩ := hq 0 _ (by simp) rfl
          obtain ⟨A0_, d0_, hB0, hs0⟩ := SlS.of_own (Y := q.Z) sf0 zf0
          injection hB0 with e1 e2 e3
          subst A0_
          obtain ⟨F1, sf1, zf1⟩ := hq 1 _ (by simp) rfl
          obtain ⟨A1_, d1_, hB1, hs1⟩ := SlS.of_own (Y := q.Z) sf1 zf1
          injection hB1 with e1 e2 e3
          subst A1_
          obtain ⟨F2, sf2, zf2⟩ := hq 2 _ (by simp) rfl
          obtain ⟨A2_, d2_, hB2, hs2⟩ := SlS.of_own (Y := q.Z) sf2 zf2
          injection hB2 with e1 e2 e3
          subst A2_
          obtain ⟨F3, sf3, zf3⟩ := hq 3 _ (by simp) rfl
          obtain ⟨A3_, d3_, hB3, hs3⟩ := SlS.of_own (Y := q.Z) sf3 zf3
          injection hB3 with e1 e2 e3
          subst A3_
          obtain ⟨F4, sf4, zf4⟩ := hq 4 _ (by simp) rfl
          obtain ⟨A4_, d4_, hB4, hs4⟩ := SlS.of_own (Y := q.Z) sf4 zf4
          injection hB4 with e1 e2 e3
          subst A4_
          obtain ⟨F5, sf5, zf5⟩ := hq 5 _ (by simp) rfl
          obtain ⟨A5_, d5_, hB5, hs5⟩ := SlS.of_own (Y := q.Z) sf5 zf5
          injection hB5 with e1 e2 e3
          subst A5_
          refine XK.retC rfl (n := 6) (vs := [.slice B0 x.d.length c0, .slice B1 x.c.length c1, .slice B2 x.l.length c2, .slice B3 y.d.length c3, .slice B4 y.c.length c4, .slice B5 y.l.length c5]) (by kernel_rfl) rfl rfl (RdN.whole 1 rfl) fun w1 st => ⟨⟨_, rfl, ?_⟩, st.below (by simp)⟩
          have hle := st.fresh_le (by simp) (hfr (by simp) (by simp))
          rw [show doneX x 1 k id = x from hdx, show doneY y 1 k id = y from hdy]
          exact ⟨B0, c0, B1, c1, B2, c2, B3, c3, B4, c4, B5, c5, rfl, SlS.le hs0 hle, SlS.le hs1 hle, SlS.le hs2 hle, SlS.le hs3 hle, SlS.le hs4 hle, SlS.le hs5 hle⟩
      · skip

        refine XK.draw 5 (by kernel_rfl) (by kernel_rfl) ?_
        refine XA.dA 0 rfl rfl rfl (does_move rfl) ?_
        refine XA.dA 1 rfl rfl rfl (does_field (off := 0) (by kernel_rfl) rfl) ?_
        refine XA.dA 2 rfl rfl rfl (does_atA 1 3 (n := 2) (el := 56) (sz := 3) (by kernel_rfl) (by kernel_rfl) rfl rfl (by omega) (by omega) (by omega)) ?_
        refine XA.dA 3 rfl rfl rfl (does_field (off := 0) (by kernel_rfl) rfl) ?_
        refine XA.dA 4 rfl rfl rfl (does_ld rfl) ?_
        refine XA.next 5 rfl (by kernel_rfl) ?_
        refine xk_callR (f := 62) (fi := []) (ca := []) (by kernel_rfl) rfl rfl (by decide) (v0 := .slice B4 y.c.length c4) (fun w1 st => (list_any g4 3 k (.slice B3 y.d.length c3) (.slice B4 y.c.length c4) (.slice B5 y.l.length c5) w1 (by simpa using (st.box (i := 6) rfl).at_ (j := 3) rfl) (by simpa using (st.box (i := 6) rfl).at_ (j := 4) rfl) (by simpa using (st.box (i := 6) rfl).at_ (j := 5) rfl)).mono fun _ _ h => Rt.conv h (by simp [listV, hk])) ?_
        refine XA.bt ?_
        refine XA.next 6 rfl (by kernel_rfl) ?_
        refine xk_assign rfl (by decide) ?_
        refine XA.bt ?_
        refine XA.done (by kernel_rfl) ?_
        refine XK.norm ?_
        refine XK.cutB 53 (0 ≤ id ∧ id < (y.c.length : Int)) ?_ ?_
        · skip

          refine XK.region ?_
          refine xk_field (off := 1) (by kernel_rfl) rfl (by decide) ?_
          refine xk_ld rfl ?_
          refine xk_geq rfl rfl (by decide) ?_
          refine xk_move rfl (by decide) ?_
          (first | refine xk_split (t := 47) rfl (fun hg => ?_) (fun hg => ?_) | refine xk_splitB (t := 47) rfl (fun hg => ?_) (fun hg => ?_))
          ·
            refine xk_guardT rfl rfl ?_; refine xk_field (off := 1) (by kernel_rfl) rfl (by decide) ?_
            refine xk_guardT rfl rfl ?_; refine xk_ld rfl ?_
            refine xk_guardT rfl rfl ?_; refine xk_move rfl (by decide) ?_
            refine xk_guardT rfl rfl ?_; refine xk_len (el := 4) (by kernel_rfl) rfl (by decide) ?_
            refine xk_guardT rfl rfl ?_; refine xk_lss rfl rfl (by decide) ?_
            (first | refine xk_pickT rfl rfl (by decide) ?_ | refine xk_pickF rfl rfl (by decide) ?_)
            refine XK.nilN ?_
            exact XK.meetB (by repeat (first | exact trivial | refine ⟨rfl, ?_⟩)) (by first | (refine get_iff rfl ?_; omega) | (refine get_iff rfl ?_; simp_all; done) | (refine get_false rfl ?_; first | omega | (simp_all; done)) | (refine get_true rfl ?_; first | omega | (simp_all; done)) | (refine get_bool rfl ?_; simp_all; done) | (refine get_iff rfl ⟨fun hh => ?_, fun hh => ?_⟩ <;> first | omega | (simp_all; done) | (simp_all; omega)) | (exfalso; omega))
          ·
            refine xk_guardF rfl rfl rfl (by decide) ?_
            refine xk_guardF rfl rfl rfl (by decide) ?_
            refine xk_guardF rfl rfl rfl (by decide) ?_
            refine xk_guardF rfl rfl rfl (by decide) ?_
            refine xk_guardF rfl rfl rfl (by decide) ?_
            (first | refine xk_pickT rfl rfl (by decide) ?_ | refine xk_pickF rfl rfl (by decide) ?_)
            refine XK.nilN ?_
            exact XK.meetB (by repeat (first | exact trivial | refine ⟨rfl, ?_⟩)) (by first | (refine get_iff rfl ?_; omega) | (refine get_iff rfl ?_; simp_all; done) | (refine get_false rfl ?_; first | omega | (simp_all; done)) | (refine get_true rfl ?_; first | omega | (simp_all; done)) | (refine get_bool rfl ?_; simp_all; done) | (refine get_iff rfl ⟨fun hh => ?_, fun hh => ?_⟩ <;> first | omega | (simp_all; done) | (simp_all; omega)) | (exfalso; omega))
        refine XK.if_ rfl (fun hin => ?_) (fun hin => ?_)
        ·
          refine XK.ownAt 4 rfl (by omega) ?_
          rintro ⟨gb, rfl⟩
          refine XK.openOwn 4 rfl fun cs hcl hct hnc hcm => ?_
          dsimp only [List.set]
          have hct1 : cs.take y.c.length = boolCells y.c := by simpa using hct

          refine XK.draw 6 (by kernel_rfl) (by kernel_rfl) ?_
          refine XA.dA 0 rfl rfl rfl (does_move rfl) ?_
          refine XA.dA 1 rfl rfl rfl (does_field (off := 1) (by kernel_rfl) rfl) ?_
          refine XA.dA 2 rfl rfl rfl (does_ld rfl) ?_
          refine XA.dA 3 rfl rfl rfl (does_field (off := 0) (by kernel_rfl) rfl) ?_
          refine XA.dA 4 rfl rfl rfl (does_ld rfl) ?_
          refine XA.next 5 rfl (by kernel_rfl) ?_
          refine xk_callR (f := 58) (fi := []) (ca := []) (by kernel_rfl) rfl rfl (by decide) (fun w1 st => on_any k w1) ?_
          refine XA.bk ?_
          refine XA.next 6 rfl (by kernel_rfl) ?_
          refine xk_at id.toNat id.toNat (el := 4) (sz := 1) (by kernel_rfl) (by kernel_rfl) rfl rfl (by omega) (by omega) (by omega) (by decide) ?_
          refine XA.bt ?_
          refine XA.next 7 rfl (by kernel_rfl) ?_
          refine xk_store 4 rfl (by kernel_rfl) rfl rfl rfl (by simp at hcl; omega) ?_; dsimp only [List.set]
          refine XA.bt ?_
          refine XA.done (by kernel_rfl) ?_
          refine XK.norm ?_
          refine XK.seq ?_
          refine XK.closeOwn 4 (n := y.c.length) (c := c4) (sz := 1) (xs := boolCells (setBL y.c id (decide (onB k)))) rfl (by simpa using hcl) (by rw [Nat.mul_one, ← boolCells_setB _ hin, ← hct1, List.take_set]) hnc hcm ?_
          dsimp only [List.set]

          refine XK.region ?_
          refine xk_ldN 6 rfl ?_
          (first | (refine xk_storeN 0 rfl rfl rfl (by kernel_rfl) (by simp [Value.cells, Value.oneCell']) (by simp [Value.cells]) ?_) | (refine xk_storeN 1 rfl rfl rfl (by kernel_rfl) (by simp [Value.cells, Value.oneCell']) (by simp [Value.cells]) ?_) | (refine xk_storeN 2 rfl rfl rfl (by kernel_rfl) (by simp [Value.cells, Value.oneCell']) (by simp [Value.cells]) ?_) | (refine xk_storeN 3 rfl rfl rfl (by kernel_rfl) (by simp [Value.cells, Value.oneCell']) (by simp [Value.cells]) ?_) | (refine xk_storeN 4 rfl rfl rfl (by kernel_rfl) (by simp [Value.cells, Value.oneCell']) (by simp [Value.cells]) ?_) | (refine xk_storeN 5 rfl rfl rfl (by kernel_rfl) (by simp [Value.cells, Value.oneCell']) (by simp [Value.cells]) ?_) | (refine xk_storeN 6 rfl rfl rfl (by kernel_rfl) (by simp [Value.cells, Value.oneCell']) (by simp [Value.cells]) ?_) | (refine xk_storeN 7 rfl rfl rfl (by kernel_rfl) (by simp [Value.cells, Value.oneCell']) (by simp [Value.cells]) ?_) | (refine xk_storeN 8 rfl rfl rfl (by kernel_rfl) (by simp [Value.cells, Value.oneCell']) (by simp [Value.cells]) ?_)); simp only [putN, Value.cells, List.set, List.take, List.drop, List.nil_append, List.append_nil, List.length_cons, List.length_nil, List.cons_append, Nat.reduceAdd]
          refine XK.nilN ?_
          refine XK.ret ?_
          refine XK.norm ?_
          have hdx : doneX x 1 k id = ⟨x.d, x.c, x.l⟩ := by simp [doneX, setW, hk]
          have hdy : doneY y 1 k id = ⟨y.d, (setBL y.c id (decide (onB k))), y.l⟩ := by simp [doneY, setW, hk]
          refine XK.still [] [0, 1, 2, 3, 4, 5] [6, 7, 8, 9] (by simp) rfl (by decide) (by decide) fun q hq _ hfr => ?_
          obtain ⟨F0, sf0, zf0⟩ := hq 0 _ (by simp) rfl
          obtain ⟨A0_, d0_, hB0, hs0⟩ := SlS.of_own (Y := q.Z) sf0 zf0
          injection hB0 with e1 e2 e3
          subst A0_
          obtain ⟨F1, sf1, zf1⟩ := hq 1 _ (by simp) rfl
          obtain ⟨A1_, d1_, hB1, hs1⟩ := SlS.of_own (Y := q.Z) sf1 zf1
          injection hB1 with e1 e2 e3
          subst A1_
          obtain ⟨F2, sf2, zf2⟩ := hq 2 _ (by simp) rfl
          obtain ⟨A2_, d2_, hB2, hs2⟩ := SlS.of_own (Y := q.Z) sf2 zf2
          injection hB2 with e1 e2 e3
          subst A2_
          obtain ⟨F3, sf3, zf3⟩ := hq 3 _ (by simp) rfl
          obtain ⟨A3_, d3_, hB3, hs3⟩ := SlS.of_own (Y := q.Z) sf3 zf3
          injection hB3 with e1 e2 e3
          subst A3_
          obtain ⟨F4, sf4, zf4⟩ := hq 4 _ (by simp) rfl
          obtain ⟨A4_, d4_, hB4, hs4⟩ := SlS.of_own (Y := q.Z) sf4 zf4
          injection hB4 with e1 e2 e3
          subst A4_
          obtain ⟨F5, sf5, zf5⟩ := hq 5 _ (by simp) rfl
          obtain ⟨A5_, d5_, hB5, hs5⟩ := SlS.of_own (Y := q.Z) sf5 zf5
          injection hB5 with e1 e2 e3
          subst A5_
          refine XK.retC rfl (n := 6) (vs := [.slice B0 x.d.length c0, .slice B1 x.c.length c1, .slice B2 x.l.length c2, .slice B3 y.d.length c3, .slice (some ⟨gb, 0, none⟩) y.c.length c4, .slice B5 y.l.length c5]) (by kernel_rfl) rfl rfl (RdN.whole 1 rfl) fun w1 st => ⟨⟨_, rfl, ?_⟩, st.below (by simp)⟩
          have hle := st.fresh_le (by simp) (hfr (by simp) (by simp))
          rw [show doneX x 1 k id = ⟨x.d, x.c, x.l⟩ from hdx, show doneY y 1 k id = ⟨y.d, (setBL y.c id (decide (onB k))), y.l⟩ from hdy]
          exact ⟨B0, c0, B1, c1, B2, c2, B3, c3, (some ⟨gb, 0, none⟩), c4, B5, c5, by simp only [setBL_len], SlS.le hs0 hle, SlS.le hs1 hle, SlS.le hs2 hle, SlS.le hs3 hle, SlS.le (p := q) (by dsimp only; rw [setBL_len]; exact hs4) hle, SlS.le hs5 hle⟩
        ·
          refine XK.skip ?_
          refine XK.norm ?_
          refine XK.seq ?_

          refine XK.region ?_
          refine xk_ldN 6 rfl ?_
          (first | (refine xk_storeN 0 rfl rfl rfl (by kernel_rfl) (by simp [Value.cells, Value.oneCell']) (by simp [Value.cells]) ?_) | (refine xk_storeN 1 rfl rfl rfl (by kernel_rfl) (by simp [Value.cells, Value.oneCell']) (by simp [Value.cells]) ?_) | (refine xk_storeN 2 rfl rfl rfl (by kernel_rfl) (by simp [Value.cells, Value.oneCell']) (by simp [Value.cells]) ?_) | (refine xk_storeN 3 rfl rfl rfl (by kernel_rfl) (by simp [Value.cells, Value.oneCell']) (by simp [Value.cells]) ?_) | (refine xk_storeN 4 rfl rfl rfl (by kernel_rfl) (by simp [Value.cells, Value.oneCell']) (by simp [Value.cells]) ?_) | (refine xk_storeN 5 rfl rfl rfl (by kernel_rfl) (by simp [Value.cells, Value.oneCell']) (by simp [Value.cells]) ?_) | (refine xk_storeN 6 rfl rfl rfl (by kernel_rfl) (by simp [Value.cells, Value.oneCell']) (by simp [Value.cells]) ?_) | (refine xk_storeN 7 rfl rfl rfl (by kernel_rfl) (by simp [Value.cells, Value.oneCell']) (by simp [Value.cells]) ?_) | (refine xk_storeN 8 rfl rfl rfl (by kernel_rfl) (by simp [Value.cells, Value.oneCell']) (by simp [Value.cells]) ?_)); simp only [putN, Value.cells, List.set, List.take, List.drop, List.nil_append, List.append_nil, List.length_cons, List.length_nil, List.cons_append, Nat.reduceAdd]
          refine XK.nilN ?_
          refine XK.ret ?_
          refine XK.norm ?_
          have hdx : doneX x 1 k id = x := by simp [doneX, setW, hk, setBL_out _ hin]
          have hdy : doneY y 1 k id = y := by simp [doneY, setW, hk, setBL_out _ hin]
          refine XK.still [] [0, 1, 2, 3, 4, 5] [6, 7, 8, 9] (by simp) rfl (by decide) (by decide) fun q hq _ hfr => ?_
          obtain ⟨F0, sf0, zf0⟩ := hq 0 _ (by simp) rfl
          obtain ⟨A0_, d0_, hB0, hs0⟩ := SlS.of_own (Y := q.Z) sf0 zf0
          injection hB0 with e1 e2 e3
          subst A0_
          obtain ⟨F1, sf1, zf1⟩ := hq 1 _ (by simp) rfl
          obtain ⟨A1_, d1_, hB1, hs1⟩ := SlS.of_own (Y := q.Z) sf1 zf1
          injection hB1 with e1 e2 e3
          subst A1_
          obtain ⟨F2, sf2, zf2⟩ := hq 2 _ (by simp) rfl
          obtain ⟨A2_, d2_, hB2, hs2⟩ := SlS.of_own (Y := q.Z) sf2 zf2
          injection hB2 with e1 e2 e3
          subst A2_
          obtain ⟨F3, sf3, zf3⟩ := hq 3 _ (by simp) rfl
          obtain ⟨A3_, d3_, hB3, hs3⟩ := SlS.of_own (Y := q.Z) sf3 zf3
          injection hB3 with e1 e2 e3
          subst A3_
          obtain ⟨F4, sf4, zf4⟩ := hq 4 _ (by simp) rfl
          obtain ⟨A4_, d4_, hB4, hs4⟩ := SlS.of_own (Y := q.Z) sf4 zf4
          injection hB4 with e1 e2 e3
          subst A4_
          obtain ⟨F5, sf5, zf5⟩ := hq 5 _ (by simp) rfl
          obtain ⟨A5_, d5_, hB5, hs5⟩ := SlS.of_own (Y := q.Z) sf5 zf5
          injection hB5 with e1 e2 e3
          subst A5_
          refine XK.retC rfl (n := 6) (vs := [.slice B0 x.d.length c0, .slice B1 x.c.length c1, .slice B2 x.l.length c2, .slice B3 y.d.length c3, .slice B4 y.c.length c4, .slice B5 y.l.length c5]) (by kernel_rfl) rfl rfl (RdN.whole 1 rfl) fun w1 st => ⟨⟨_, rfl, ?_⟩, st.below (by simp)⟩
          have hle := st.fresh_le (by simp) (hfr (by simp) (by simp))
          rw [show doneX x 1 k id = x from hdx, show doneY y 1 k id = y from hdy]
          exact ⟨B0, c0, B1, c1, B2, c2, B3, c3, B4, c4, B5, c5, rfl, SlS.le hs0 hle, SlS.le hs1 hle, SlS.le hs2 hle, SlS.le hs3 hle, SlS.le hs4 hle, SlS.le hs5 hle⟩
      · skip

        refine XK.draw 5 (by kernel_rfl) (by kernel_rfl) ?_
        refine XA.dA 0 rfl rfl rfl (does_move rfl) ?_
        refine XA.dA 1 rfl rfl rfl (does_field (off := 0) (by kernel_rfl) rfl) ?_
        refine XA.dA 2 rfl rfl rfl (does_atA 1 3 (n := 2) (el := 56) (sz := 3) (by kernel_rfl) (by kernel_rfl) rfl rfl (by omega) (by omega) (by omega)) ?_
        refine XA.dA 3 rfl rfl rfl (does_field (off := 0) (by kernel_rfl) rfl) ?_
        refine XA.dA 4 rfl rfl rfl (does_ld rfl) ?_
        refine XA.next 5 rfl (by kernel_rfl) ?_
        refine xk_callR (f := 62) (fi := []) (ca := []) (by kernel_rfl) rfl rfl (by decide) (v0 := .slice B5 y.l.length c5) (fun w1 st => (list_any g4 3 k (.slice B3 y.d.length c3) (.slice B4 y.c.length c4) (.slice B5 y.l.length c5) w1 (by simpa using (st.box (i := 6) rfl).at_ (j := 3) rfl) (by simpa using (st.box (i := 6) rfl).at_ (j := 4) rfl) (by simpa using (st.box (i := 6) rfl).at_ (j := 5) rfl)).mono fun _ _ h => Rt.conv h (by simp [listV, hk])) ?_
        refine XA.bt ?_
        refine XA.next 6 rfl (by kernel_rfl) ?_
        refine xk_assign rfl (by decide) ?_
        refine XA.bt ?_
        refine XA.done (by kernel_rfl) ?_
        refine XK.norm ?_
        refine XK.cutB 53 (0 ≤ id ∧ id < (y.l.length : Int)) ?_ ?_
        · skip

          refine XK.region ?_
          refine xk_field (off := 1) (by kernel_rfl) rfl (by decide) ?_
          refine xk_ld rfl ?_
          refine xk_geq rfl rfl (by decide) ?_
          refine xk_move rfl (by decide) ?_
          (first | refine xk_split (t := 47) rfl (fun hg => ?_) (fun hg => ?_) | refine xk_splitB (t := 47) rfl (fun hg => ?_) (fun hg => ?_))
          ·
            refine xk_guardT rfl rfl ?_; refine xk_field (off := 1) (by kernel_rfl) rfl (by decide) ?_
            refine xk_guardT rfl rfl ?_; refine xk_ld rfl ?_
            refine xk_guardT rfl rfl ?_; refine xk_move rfl (by decide) ?_
            refine xk_guardT rfl rfl ?_; refine xk_len (el := 4) (by kernel_rfl) rfl (by decide) ?_
            refine xk_guardT rfl rfl ?_; refine xk_lss rfl rfl (by decide) ?_
            (first | refine xk_pickT rfl rfl (by decide) ?_ | refine xk_pickF rfl rfl (by decide) ?_)
            refine XK.nilN ?_
            exact XK.meetB (by repeat (first | exact trivial | refine ⟨rfl, ?_⟩)) (by first | (refine get_iff rfl ?_; omega) | (refine get_iff rfl ?_; simp_all; done) | (refine get_false rfl ?_; first | omega | (simp_all; done)) | (refine get_true rfl ?_; first | omega | (simp_all; done)) | (refine get_bool rfl ?_; simp_all; done) | (refine get_iff rfl ⟨fun hh => ?_, fun hh => ?_⟩ <;> first | omega | (simp_all; done) | (simp_all; omega)) | (exfalso; omega))
          ·
            refine xk_guardF rfl rfl rfl (by decide) ?_
            refine xk_guardF rfl rfl rfl (by decide) ?_
            refine xk_guardF rfl rfl rfl (by decide) ?_
            refine xk_guardF rfl rfl rfl (by decide) ?_
            refine xk_guardF rfl rfl rfl (by decide) ?_
            (first | refine xk_pickT rfl rfl (by decide) ?_ | refine xk_pickF rfl rfl (by decide) ?_)
            refine XK.nilN ?_
            exact XK.meetB (by repeat (first | exact trivial | refine ⟨rfl, ?_⟩)) (by first | (refine get_iff rfl ?_; omega) | (refine get_iff rfl ?_; simp_all; done) | (refine get_false rfl ?_; first | omega | (simp_all; done)) | (refine get_true rfl ?_; first | omega | (simp_all; done)) | (refine get_bool rfl ?_; simp_all; done) | (refine get_iff rfl ⟨fun hh => ?_, fun hh => ?_⟩ <;> first | omega | (simp_all; done) | (simp_all; omega)) | (exfalso; omega))
        refine XK.if_ rfl (fun hin => ?_) (fun hin => ?_)
        ·
          refine XK.ownAt 5 rfl (by omega) ?_
          rintro ⟨gb, rfl⟩
          refine XK.openOwn 5 rfl fun cs hcl hct hnc hcm => ?_
          dsimp only [List.set]
          have hct1 : cs.take y.l.length = boolCells y.l := by simpa using hct

          refine XK.draw 6 (by kernel_rfl) (by kernel_rfl) ?_
          refine XA.dA 0 rfl rfl rfl (does_move rfl) ?_
          refine XA.dA 1 rfl rfl rfl (does_field (off := 1) (by kernel_rfl) rfl) ?_
          refine XA.dA 2 rfl rfl rfl (does_ld rfl) ?_
          refine XA.dA 3 rfl rfl rfl (does_field (off := 0) (by kernel_rfl) rfl) ?_
          refine XA.dA 4 rfl rfl rfl (does_ld rfl) ?_
          refine XA.next 5 rfl (by kernel_rfl) ?_
          refine xk_callR (f := 58) (fi := []) (ca := []) (by kernel_rfl) rfl rfl (by decide) (fun w1 st => on_any k w1) ?_
          refine XA.bk ?_
          refine XA.next 6 rfl (by kernel_rfl) ?_
          refine xk_at id.toNat id.toNat (el := 4) (sz := 1) (by kernel_rfl) (by kernel_rfl) rfl rfl (by omega) (by omega) (by omega) (by decide) ?_
          refine XA.bt ?_
          refine XA.next 7 rfl (by kernel_rfl) ?_
          refine xk_store 5 rfl (by kernel_rfl) rfl rfl rfl (by simp at hcl; omega) ?_; dsimp only [List.set]
          refine XA.bt ?_
          refine XA.done (by kernel_rfl) ?_
          refine XK.norm ?_
          refine XK.seq ?_
          refine XK.closeOwn 5 (n := y.l.length) (c := c5) (sz := 1) (xs := boolCells (setBL y.l id (decide (onB k)))) rfl (by simpa using hcl) (by rw [Nat.mul_one, ← boolCells_setB _ hin, ← hct1, List.take_set]) hnc hcm ?_
          dsimp only [List.set]

          refine XK.region ?_
          refine xk_ldN 6 rfl ?_
          (first | (refine xk_storeN 0 rfl rfl rfl (by kernel_rfl) (by simp [Value.cells, Value.oneCell']) (by simp [Value.cells]) ?_) | (refine xk_storeN 1 rfl rfl rfl (by kernel_rfl) (by simp [Value.cells, Value.oneCell']) (by simp [Value.cells]) ?_) | (refine xk_storeN 2 rfl rfl rfl (by kernel_rfl) (by simp [Value.cells, Value.oneCell']) (by simp [Value.cells]) ?_) | (refine xk_storeN 3 rfl rfl rfl (by kernel_rfl) (by simp [Value.cells, Value.oneCell']) (by simp [Value.cells]) ?_) | (refine xk_storeN 4 rfl rfl rfl (by kernel_rfl) (by simp [Value.cells, Value.oneCell']) (by simp [Value.cells]) ?_) | (refine xk_storeN 5 rfl rfl rfl (by kernel_rfl) (by simp [Value.cells, Value.oneCell']) (by simp [Value.cells]) ?_) | (refine xk_storeN 6 rfl rfl rfl (by kernel_rfl) (by simp [Value.cells, Value.oneCell']) (by simp [Value.cells]) ?_) | (refine xk_storeN 7 rfl rfl rfl (by kernel_rfl) (by simp [Value.cells, Value.oneCell']) (by simp [Value.cells]) ?_) | (refine xk_storeN 8 rfl rfl rfl (by kernel_rfl) (by simp [Value.cells, Value.oneCell']) (by simp [Value.cells]) ?_)); simp only [putN, Value.cells, List.set, List.take, List.drop, List.nil_append, List.append_nil, List.length_cons, List.length_nil, List.cons_append, Nat.reduceAdd]
          refine XK.nilN ?_
          refine XK.ret ?_
          refine XK.norm ?_
          have hdx : doneX x 1 k id = ⟨x.d, x.c, x.l⟩ := by simp [doneX, setW, hk]
          have hdy : doneY y 1 k id = ⟨y.d, y.c, (setBL y.l id (decide (onB k)))⟩ := by simp [doneY, setW, hk]
          refine XK.still [] [0, 1, 2, 3, 4, 5] [6, 7, 8, 9] (by simp) rfl (by decide) (by decide) fun q hq _ hfr => ?_
          obtain ⟨F0, sf0, zf0⟩ := hq 0 _ (by simp) rfl
          obtain ⟨A0_, d0_, hB0, hs0⟩ := SlS.of_own (Y := q.Z) sf0 zf0
          injection hB0 with e1 e2 e3
          subst A0_
          obtain ⟨F1, sf1, zf1⟩ := hq 1 _ (by simp) rfl
          obtain ⟨A1_, d1_, hB1, hs1⟩ := SlS.of_own (Y := q.Z) sf1 zf1
          injection hB1 with e1 e2 e3
          subst A1_
          obtain ⟨F2, sf2, zf2⟩ := hq 2 _ (by simp) rfl
          obtain ⟨A2_, d2_, hB2, hs2⟩ := SlS.of_own (Y := q.Z) sf2 zf2
          injection hB2 with e1 e2 e3
          subst A2_
          obtain ⟨F3, sf3, zf3⟩ := hq 3 _ (by simp) rfl
          obtain ⟨A3_, d3_, hB3, hs3⟩ := SlS.of_own (Y := q.Z) sf3 zf3
          injection hB3 with e1 e2 e3
          subst A3_
          obtain ⟨F4, sf4, zf4⟩ := hq 4 _ (by simp) rfl
          obtain ⟨A4_, d4_, hB4, hs4⟩ := SlS.of_own (Y := q.Z) sf4 zf4
          injection hB4 with e1 e2 e3
          subst A4_
          obtain ⟨F5, sf5, zf5⟩ := hq 5 _ (by simp) rfl
          obtain ⟨A5_, d5_, hB5, hs5⟩ := SlS.of_own (Y := q.Z) sf5 zf5
          injection hB5 with e1 e2 e3
          subst A5_
          refine XK.retC rfl (n := 6) (vs := [.slice B0 x.d.length c0, .slice B1 x.c.length c1, .slice B2 x.l.length c2, .slice B3 y.d.length c3, .slice B4 y.c.length c4, .slice (some ⟨gb, 0, none⟩) y.l.length c5]) (by kernel_rfl) rfl rfl (RdN.whole 1 rfl) fun w1 st => ⟨⟨_, rfl, ?_⟩, st.below (by simp)⟩
          have hle := st.fresh_le (by simp) (hfr (by simp) (by simp))
          rw [show doneX x 1 k id = ⟨x.d, x.c, x.l⟩ from hdx, show doneY y 1 k id = ⟨y.d, y.c, (setBL y.l id (decide (onB k)))⟩ from hdy]
          exact ⟨B0, c0, B1, c1, B2, c2, B3, c3, B4, c4, (some ⟨gb, 0, none⟩), c5, by simp only [setBL_len], SlS.le hs0 hle, SlS.le hs1 hle, SlS.le hs2 hle, SlS.le hs3 hle, SlS.le hs4 hle, SlS.le (p := q) (by dsimp only; rw [setBL_len]; exact hs5) hle⟩
        ·
          refine XK.skip ?_
          refine XK.norm ?_
          refine XK.seq ?_

          refine XK.region ?_
          refine xk_ldN 6 rfl ?_
          (first | (refine xk_storeN 0 rfl rfl rfl (by kernel_rfl) (by simp [Value.cells, Value.oneCell']) (by simp [Value.cells]) ?_) | (refine xk_storeN 1 rfl rfl rfl (by kernel_rfl) (by simp [Value.cells, Value.oneCell']) (by simp [Value.cells]) ?_) | (refine xk_storeN 2 rfl rfl rfl (by kernel_rfl) (by simp [Value.cells, Value.oneCell']) (by simp [Value.cells]) ?_) | (refine xk_storeN 3 rfl rfl rfl (by kernel_rfl) (by simp [Value.cells, Value.oneCell']) (by simp [Value.cells]) ?_) | (refine xk_storeN 4 rfl rfl rfl (by kernel_rfl) (by simp [Value.cells, Value.oneCell']) (by simp [Value.cells]) ?_) | (refine xk_storeN 5 rfl rfl rfl (by kernel_rfl) (by simp [Value.cells, Value.oneCell']) (by simp [Value.cells]) ?_) | (refine xk_storeN 6 rfl rfl rfl (by kernel_rfl) (by simp [Value.cells, Value.oneCell']) (by simp [Value.cells]) ?_) | (refine xk_storeN 7 rfl rfl rfl (by kernel_rfl) (by simp [Value.cells, Value.oneCell']) (by simp [Value.cells]) ?_) | (refine xk_storeN 8 rfl rfl rfl (by kernel_rfl) (by simp [Value.cells, Value.oneCell']) (by simp [Value.cells]) ?_)); simp only [putN, Value.cells, List.set, List.take, List.drop, List.nil_append, List.append_nil, List.length_cons, List.length_nil, List.cons_append, Nat.reduceAdd]
          refine XK.nilN ?_
          refine XK.ret ?_
          refine XK.norm ?_
          have hdx : doneX x 1 k id = x := by simp [doneX, setW, hk, setBL_out _ hin]
          have hdy : doneY y 1 k id = y := by simp [doneY, setW, hk, setBL_out _ hin]
          refine XK.still [] [0, 1, 2, 3, 4, 5] [6, 7, 8, 9] (by simp) rfl (by decide) (by decide) fun q hq _ hfr => ?_
          obtain ⟨F0, sf0, zf0⟩ := hq 0 _ (by simp) rfl
          obtain ⟨A0_, d0_, hB0, hs0⟩ := SlS.of_own (Y := q.Z) sf0 zf0
          injection hB0 with e1 e2 e3
          subst A0_
          obtain ⟨F1, sf1, zf1⟩ := hq 1 _ (by simp) rfl
          obtain ⟨A1_, d1_, hB1, hs1⟩ := SlS.of_own (Y := q.Z) sf1 zf1
          injection hB1 with e1 e2 e3
          subst A1_
          obtain ⟨F2, sf2, zf2⟩ := hq 2 _ (by simp) rfl
          obtain ⟨A2_, d2_, hB2, hs2⟩ := SlS.of_own (Y := q.Z) sf2 zf2
          injection hB2 with e1 e2 e3
          subst A2_
          obtain ⟨F3, sf3, zf3⟩ := hq 3 _ (by simp) rfl
          obtain ⟨A3_, d3_, hB3, hs3⟩ := SlS.of_own (Y := q.Z) sf3 zf3
          injection hB3 with e1 e2 e3
          subst A3_
          obtain ⟨F4, sf4, zf4⟩ := hq 4 _ (by simp) rfl
          obtain ⟨A4_, d4_, hB4, hs4⟩ := SlS.of_own (Y := q.Z) sf4 zf4
          injection hB4 with e1 e2 e3
          subst A4_
          obtain ⟨F5, sf5, zf5⟩ := hq 5 _ (by simp) rfl
          obtain ⟨A5_, d5_, hB5, hs5⟩ := SlS.of_own (Y := q.Z) sf5 zf5
          injection hB5 with e1 e2 e3
          subst A5_
          refine XK.retC rfl (n := 6) (vs := [.slice B0 x.d.length c0, .slice B1 x.c.length c1, .slice B2 x.l.length c2, .slice B3 y.d.length c3, .slice B4 y.c.length c4, .slice B5 y.l.length c5]) (by kernel_rfl) rfl rfl (RdN.whole 1 rfl) fun w1 st => ⟨⟨_, rfl, ?_⟩, st.below (by simp)⟩
          have hle := st.fresh_le (by simp) (hfr (by simp) (by simp))
          rw [show doneX x 1 k id = x from hdx, show doneY y 1 k id = y from hdy]
          exact ⟨B0, c0, B1, c1, B2, c2, B3, c3, B4, c4, B5, c5, rfl, SlS.le hs0 hle, SlS.le hs1 hle, SlS.le hs2 hle, SlS.le hs3 hle, SlS.le hs4 hle, SlS.le hs5 hle⟩
      · skip

        refine XK.draw 5 (by kernel_rfl) (by kernel_rfl) ?_
        refine XA.dA 0 rfl rfl rfl (does_move rfl) ?_
        refine XA.dA 1 rfl rfl rfl (does_field (off := 0) (by kernel_rfl) rfl) ?_
        refine XA.dA 2 rfl rfl rfl (does_atA 1 3 (n := 2) (el := 56) (sz := 3) (by kernel_rfl) (by kernel_rfl) rfl rfl (by omega) (by omega) (by omega)) ?_
        refine XA.dA 3 rfl rfl rfl (does_field (off := 0) (by kernel_rfl) rfl) ?_
        refine XA.dA 4 rfl rfl rfl (does_ld rfl) ?_
        refine XA.next 5 rfl (by kernel_rfl) ?_
        refine xk_callR (f := 62) (fi := []) (ca := []) (by kernel_rfl) rfl rfl (by decide) (v0 := .slice none 0 0) (fun w1 st => (list_any g4 3 k (.slice B3 y.d.length c3) (.slice B4 y.c.length c4) (.slice B5 y.l.length c5) w1 (by simpa using (st.box (i := 6) rfl).at_ (j := 3) rfl) (by simpa using (st.box (i := 6) rfl).at_ (j := 4) rfl) (by simpa using (st.box (i := 6) rfl).at_ (j := 5) rfl)).mono fun _ _ h => Rt.conv h (by simp [listV, hk])) ?_
        refine XA.bt ?_
        refine XA.next 6 rfl (by kernel_rfl) ?_
        refine xk_assign rfl (by decide) ?_
        refine XA.bt ?_
        refine XA.done (by kernel_rfl) ?_
        refine XK.norm ?_
        refine XK.cutB 53 (0 ≤ id ∧ id < (0 : Int)) ?_ ?_
        · skip

          refine XK.region ?_
          refine xk_field (off := 1) (by kernel_rfl) rfl (by decide) ?_
          refine xk_ld rfl ?_
          refine xk_geq rfl rfl (by decide) ?_
          refine xk_move rfl (by decide) ?_
          (first | refine xk_split (t := 47) rfl (fun hg => ?_) (fun hg => ?_) | refine xk_splitB (t := 47) rfl (fun hg => ?_) (fun hg => ?_))
          ·
            refine xk_guardT rfl rfl ?_; refine xk_field (off := 1) (by kernel_rfl) rfl (by decide) ?_
            refine xk_guardT rfl rfl ?_; refine xk_ld rfl ?_
            refine xk_guardT rfl rfl ?_; refine xk_move rfl (by decide) ?_
            refine xk_guardT rfl rfl ?_; refine xk_len (el := 4) (by kernel_rfl) rfl (by decide) ?_
            refine xk_guardT rfl rfl ?_; refine xk_lss rfl rfl (by decide) ?_
            (first | refine xk_pickT rfl rfl (by decide) ?_ | refine xk_pickF rfl rfl (by decide) ?_)
            refine XK.nilN ?_
            exact XK.meetB (by repeat (first | exact trivial | refine ⟨rfl, ?_⟩)) (by first | (refine get_iff rfl ?_; omega) | (refine get_iff rfl ?_; simp_all; done) | (refine get_false rfl ?_; first | omega | (simp_all; done)) | (refine get_true rfl ?_; first | omega | (simp_all; done)) | (refine get_bool rfl ?_; simp_all; done) | (refine get_iff rfl ⟨fun hh => ?_, fun hh => ?_⟩ <;> first | omega | (simp_all; done) | (simp_all; omega)) | (exfalso; omega))
          ·
            refine xk_guardF rfl rfl rfl (by decide) ?_
            refine xk_guardF rfl rfl rfl (by decide) ?_
            refine xk_guardF rfl rfl rfl (by decide) ?_
            refine xk_guardF rfl rfl rfl (by decide) ?_
            refine xk_guardF rfl rfl rfl (by decide) ?_
            (first | refine xk_pickT rfl rfl (by decide) ?_ | refine xk_pickF rfl rfl (by decide) ?_)
            refine XK.nilN ?_
            exact XK.meetB (by repeat (first | exact trivial | refine ⟨rfl, ?_⟩)) (by first | (refine get_iff rfl ?_; omega) | (refine get_iff rfl ?_; simp_all; done) | (refine get_false rfl ?_; first | omega | (simp_all; done)) | (refine get_true rfl ?_; first | omega | (simp_all; done)) | (refine get_bool rfl ?_; simp_all; done) | (refine get_iff rfl ⟨fun hh => ?_, fun hh => ?_⟩ <;> first | omega | (simp_all; done) | (simp_all; omega)) | (exfalso; omega))
        refine XK.if_ rfl (fun hin => ?_) (fun hin => ?_)
        ·
          exact absurd hin (by omega)
        ·
          refine XK.skip ?_
          refine XK.norm ?_
          refine XK.seq ?_

          refine XK.region ?_
          refine xk_ldN 6 rfl ?_
          (first | (refine xk_storeN 0 rfl rfl rfl (by kernel_rfl) (by simp [Value.cells, Value.oneCell']) (by simp [Value.cells]) ?_) | (refine xk_storeN 1 rfl rfl rfl (by kernel_rfl) (by simp [Value.cells, Value.oneCell']) (by simp [Value.cells]) ?_) | (refine xk_storeN 2 rfl rfl rfl (by kernel_rfl) (by simp [Value.cells, Value.oneCell']) (by simp [Value.cells]) ?_) | (refine xk_storeN 3 rfl rfl rfl (by kernel_rfl) (by simp [Value.cells, Value.oneCell']) (by simp [Value.cells]) ?_) | (refine xk_storeN 4 rfl rfl rfl (by kernel_rfl) (by simp [Value.cells, Value.oneCell']) (by simp [Value.cells]) ?_) | (refine xk_storeN 5 rfl rfl rfl (by kernel_rfl) (by simp [Value.cells, Value.oneCell']) (by simp [Value.cells]) ?_) | (refine xk_storeN 6 rfl rfl rfl (by kernel_rfl) (by simp [Value.cells, Value.oneCell']) (by simp [Value.cells]) ?_) | (refine xk_storeN 7 rfl rfl rfl (by kernel_rfl) (by simp [Value.cells, Value.oneCell']) (by simp [Value.cells]) ?_) | (refine xk_storeN 8 rfl rfl rfl (by kernel_rfl) (by simp [Value.cells, Value.oneCell']) (by simp [Value.cells]) ?_)); simp only [putN, Value.cells, List.set, List.take, List.drop, List.nil_append, List.append_nil, List.length_cons, List.length_nil, List.cons_append, Nat.reduceAdd]
          refine XK.nilN ?_
          refine XK.ret ?_
          refine XK.norm ?_
          have hdx : doneX x 1 k id = x := by simp [doneX, setW, hk]
          have hdy : doneY y 1 k id = y := by simp [doneY, setW, hk]
          refine XK.still [] [0, 1, 2, 3, 4, 5] [6, 7, 8, 9] (by simp) rfl (by decide) (by decide) fun q hq _ hfr => ?_
          obtain ⟨F0, sf0, zf0⟩ := hq 0 _ (by simp) rfl
          obtain ⟨A0_, d0_, hB0, hs0⟩ := SlS.of_own (Y := q.Z) sf0 zf0
          injection hB0 with e1 e2 e3
          subst A0_
          obtain ⟨F1, sf1, zf1⟩ := hq 1 _ (by simp) rfl
          obtain ⟨A1_, d1_, hB1, hs1⟩ := SlS.of_own (Y := q.Z) sf1 zf1
          injection hB1 with e1 e2 e3
          subst A1_
          obtain ⟨F2, sf2, zf2⟩ := hq 2 _ (by simp) rfl
          obtain ⟨A2_, d2_, hB2, hs2⟩ := SlS.of_own (Y := q.Z) sf2 zf2
          injection hB2 with e1 e2 e3
          subst A2_
          obtain ⟨F3, sf3, zf3⟩ := hq 3 _ (by simp) rfl
          obtain ⟨A3_, d3_, hB3, hs3⟩ := SlS.of_own (Y := q.Z) sf3 zf3
          injection hB3 with e1 e2 e3
          subst A3_
          obtain ⟨F4, sf4, zf4⟩ := hq 4 _ (by simp) rfl
          obtain ⟨A4_, d4_, hB4, hs4⟩ := SlS.of_own (Y := q.Z) sf4 zf4
          injection hB4 with e1 e2 e3
          subst A4_
          obtain ⟨F5, sf5, zf5⟩ := hq 5 _ (by simp) rfl
          obtain ⟨A5_, d5_, hB5, hs5⟩ := SlS.of_own (Y := q.Z) sf5 zf5
          injection hB5 with e1 e2 e3
          subst A5_
          refine XK.retC rfl (n := 6) (vs := [.slice B0 x.d.length c0, .slice B1 x.c.length c1, .slice B2 x.l.length c2, .slice B3 y.d.length c3, .slice B4 y.c.length c4, .slice B5 y.l.length c5]) (by kernel_rfl) rfl rfl (RdN.whole 1 rfl) fun w1 st => ⟨⟨_, rfl, ?_⟩, st.below (by simp)⟩
          have hle := st.fresh_le (by simp) (hfr (by simp) (by simp))
          rw [show doneX x 1 k id = x from hdx, show doneY y 1 k id = y from hdy]
          exact ⟨B0, c0, B1, c1, B2, c2, B3, c3, B4, c4, B5, c5, rfl, SlS.le hs0 hle, SlS.le hs1 hle, SlS.le hs2 hle, SlS.le hs3 hle, SlS.le hs4 hle, SlS.le hs5 hle⟩

end Go.Proofs.Ytbgibbbggajgaaa
/- Heads of messages: what is packed is read again. No walk in sight. -/
namespace Go.Proofs.Ytbgibbbggajgaaa
set_option linter.all false
open Go.RowKit
def headOk (m p k : Int) : Bool := decide ((packZ m 0 p k).2 = 0 ∧ getZ (packZ m 0 p k).1 28 4 = 0 ∧ getZ (packZ m 0 p k).1 0 8 = m ∧ getZ (packZ m 0 p k).1 8 2 = 0 ∧ getZ (packZ m 0 p k).1 10 8 = p ∧ getZ (packZ m 0 p k).1 18 10 = k)
theorem heads_all : ([4, 7] : List Int).all (fun m => ([17, 20, 22] : List Int).all fun p => (List.range 64).all fun k => headOk m p k) = true := by decide +kernel
theorem head_ok {m p : Int} {k : Nat} (hm : m = 4 ∨ m = 7) (hp : p = 17 ∨ p = 20 ∨ p = 22) (hk : k < 64) : (packZ m 0 p k).2 = 0 ∧ unpackE (packZ m 0 p k).1 = 0 ∧ unpackH (packZ m 0 p k).1 = headC m 0 p k := by
  have h := heads_all
  rw [List.all_eq_true] at h
  have h1 := h m (by rcases hm with rfl | rfl <;> simp)
  rw [List.all_eq_true] at h1
  have h2 := h1 p (by rcases hp with rfl | rfl | rfl <;> simp)
  rw [List.all_eq_true] at h2
  have h3 := of_decide_eq_true (h2 k (List.mem_range.2 hk))
  obtain ⟨e1, e2, e3, e4, e5, e6⟩ := h3
  refine ⟨e1, ?_, ?_⟩
  · rw [unpackE, if_neg (fun h => h e2)]
  · rw [unpackH, if_neg (fun h => h e2), e3, e4, e5, e6]
end Go.Proofs.Ytbgibbbggajgaaa
/- Heads of messages that have room; words. No walk in sight. -/
namespace Go.Proofs.Ytbgibbbggajgaaa
set_option linter.all false
open Go.RowKit
theorem or32_bd (a b : Int) : 0 ≤ or32 a b ∧ or32 a b < 4294967296 := u32_bd _
theorem putW_bd (w low many v : Int) : 0 ≤ (putW w low many v).1 ∧ (putW w low many v).1 < 4294967296 := by
  unfold putW
  split
  · exact ⟨by decide, by decide⟩
  · split
    · exact ⟨by decide, by decide⟩
    · unfold putZ
      split
      · exact ⟨by decide, by decide⟩
      · exact or32_bd _ _
theorem pack_bd (m t p k : Int) : 0 ≤ (packZ m t p k).1 ∧ (packZ m t p k).1 < 4294967296 := by
  unfold packZ
  split
  · exact ⟨by dsimp only; decide, by dsimp only; decide⟩
  · split
    · exact ⟨by dsimp only; decide, by dsimp only; decide⟩
    · split
      · exact ⟨by dsimp only; decide, by dsimp only; decide⟩
      · split
        · exact ⟨by dsimp only; decide, by dsimp only; decide⟩
        · exact putW_bd _ _ _ _
theorem U32s.snoc {l : List Int} {x : Int} (h : U32s l) (hx : 0 ≤ x ∧ x < 4294967296) : U32s (l ++ [x]) := by
  intro y hy
  rcases List.mem_append.1 hy with hy | hy
  · exact h y hy
  · simp at hy; subst hy; exact hx
theorem U32s.set {l : List Int} {x : Int} {i : Nat} (h : U32s l) (hx : 0 ≤ x ∧ x < 4294967296) : U32s (l.set i x) := by
  intro y hy
  rcases List.mem_or_eq_of_mem_set hy with hy | hy
  · exact h y hy
  · subst hy; exact hx
theorem U32s.take {l : List Int} {n : Nat} (h : U32s l) : U32s (l.take n) := fun y hy => h y (List.mem_of_mem_take hy)
end Go.Proofs.Ytbgibbbggajgaaa
/- chapter 14's laws: asks, and what is told of them. No walk in sight. -/
namespace Go.Proofs.Ytbgibbbggajgaaa
set_option linter.all false
open Go.RowKit
structure AskT where
  a1 : Int
  a2 : Int
  a3 : Int
  a4 : Int
  a5 : Int
  a6 : Int
def AskT.cells (a : AskT) : List Value := [.int .i64 a.a1, .int .i64 a.a2, .int .i64 a.a3, .int .i64 a.a4, .int .i64 a.a5, .int .i64 a.a6]
def I64 (a : Int) : Prop := -9223372036854775808 ≤ a ∧ a ≤ 9223372036854775807
structure AskT.ok (a : AskT) : Prop where
  h1 : I64 a.a1
  h2 : I64 a.a2
  h3 : I64 a.a3
  h4 : I64 a.a4
  h5 : I64 a.a5
  h6 : I64 a.a6
theorem StR.six {q : Piece} {x y : Wsh} {X0 X1 X2 X3 X4 X5 : Option Addr} {k0 k1 k2 k3 k4 k5 : Nat} (h : StR q x y (.agg #[.slice X0 x.d.length k0, .slice X1 x.c.length k1, .slice X2 x.l.length k2, .slice X3 y.d.length k3, .slice X4 y.c.length k4, .slice X5 y.l.length k5])) :
    SlS q 1 X0 x.d.length (boolCells x.d) ∧ SlS q 1 X1 x.c.length (boolCells x.c) ∧ SlS q 1 X2 x.l.length (boolCells x.l) ∧ SlS q 1 X3 y.d.length (boolCells y.d) ∧ SlS q 1 X4 y.c.length (boolCells y.c) ∧ SlS q 1 X5 y.l.length (boolCells y.l) := by
  obtain ⟨C1, j1, C2, j2, C3, j3, D1, i1, D2, i2, D3, i3, he, s1, s2, s3, s4, s5, s6⟩ := h
  simp only [Value.agg.injEq, Array.mk.injEq, List.cons.injEq, Value.slice.injEq] at he
  obtain ⟨⟨rfl, _⟩, ⟨rfl, _⟩, ⟨rfl, _⟩, ⟨rfl, _⟩, ⟨rfl, _⟩, ⟨rfl, _⟩, _⟩ := he
  exact ⟨s1, s2, s3, s4, s5, s6⟩
theorem zeroW_sm {s : Soc} (h : s.okT) : (zeroW s).sm := by
  have h1 := h.nc
  have h2 := h.nd
  have h3 := h.nr
  exact ⟨by simp [zeroW]; omega, by simp [zeroW]; omega, by simp [zeroW]; omega⟩
end Go.Proofs.Ytbgibbbggajgaaa
/- chapter 14: what is switched on, and off again. No walk in sight. -/
namespace Go.Proofs.Ytbgibbbggajgaaa
set_option linter.all false
open Go.RowKit
/-! wishes -/
theorem has_rep (n : Nat) (i : Nat) : hasB (List.replicate n false) i = false := by
  unfold hasB
  rw [List.getElem?_replicate]
  split <;> rfl
theorem wish_zero (s : Soc) (k id : Int) : wishF (zeroW s) k id = false := by
  unfold wishF kindL zeroW
  have h : ∀ n i, hasB (List.replicate n false) i = false := has_rep
  split
  · rw [h]; simp
  · split
    · rw [h]; simp
    · split
      · rw [h]; simp
      · simp [hasB]
section
variable {s : Soc} {r : Nat} {p m on off kn kf n : Int}
/-! what is told -/
theorem dec_on {x y : Wsh} {wt : List Int} {ag : Nat} {l : List Int} {k id : Int} (hr : readF s l = (0, k, id)) (hk : onB k) (hk0 : k ≠ 0) (hw : wishF (if ag = 0 then x else y) k id = false) :
    decF s x y wt ag l = if k = 117 ∧ (s.domains[id.toNat]?).any (fun d => decide (d.above ≠ -1) && !wishedF x y 117 d.above) = true then (-3, 0, 0) else (0, k, id) := by
  unfold decF
  rw [hr]
  dsimp only
  rw [hw, if_neg (by simp [hk0, hk]), if_pos hk]
theorem dec_off {x y : Wsh} {wt : List Int} {ag : Nat} {l : List Int} {k id : Int} (hr : readF s l = (0, k, id)) (hk : ¬ onB k) (hk0 : k ≠ 0) (hw : wishF (if ag = 0 then x else y) k id = true) :
    decF s x y wt ag l = if deniedF s x y ag k id = true then (-3, 0, 0) else if busyF s wt k id = true then (-6, 0, 0) else (0, k, id) := by
  unfold decF
  rw [hr]
  dsimp only
  rw [hw, if_neg (by simp [hk0, hk]), if_neg hk]
theorem busy_nil (s : Soc) (k id : Int) : busyF s [] k id = false := busyF_false fun i hi => by simp [busyAt]
end
section
variable {s : Soc} {r : Nat} {p m on off kn kf n : Int} {a b : Nat}
end
end Go.Proofs.Ytbgibbbggajgaaa
/- What devices in use want: more want no less, a domain wants all above it. No walk in sight. -/
namespace Go.Proofs.Ytbgibbbggajgaaa
set_option linter.all false
open Go.RowKit
theorem wantN_d {s : Soc} {act : List Bool} (i : Nat) (hi : i < s.domains.length) : ∀ n, (wantN s act n).d[i]?.getD false = true ↔ ∃ j, j < n ∧ hasB act j = true ∧ ∃ x, s.devs[j]? = some x ∧ i ∈ ups s x.domain.toNat
  | 0 => by simp [wantN, zeroW, hi]
  | n + 1 => by
    have ih := wantN_d (act := act) i hi n
    have hl := (wantN_of s act n).d
    cases ha : hasB act n with
    | false =>
      rw [wantN_skip ha, ih]
      constructor
      · rintro ⟨j, h1, h2⟩; exact ⟨j, by omega, h2⟩
      · rintro ⟨j, h1, h2, h3⟩
        rcases Nat.lt_or_ge j n with h | h
        · exact ⟨j, h, h2, h3⟩
        · have : j = n := by omega
          subst this
          rw [ha] at h2; cases h2
    | true =>
      cases hx : s.devs[n]? with
      | none =>
        have e : wantN s act (n + 1) = wantN s act n := by
          show (if hasB act n then _ else _) = _
          rw [if_pos ha, hx]
        rw [e, ih]
        constructor
        · rintro ⟨j, h1, h2⟩; exact ⟨j, by omega, h2⟩
        · rintro ⟨j, h1, h2, x, h3, h4⟩
          rcases Nat.lt_or_ge j n with h | h
          · exact ⟨j, h, h2, x, h3, h4⟩
          · have : j = n := by omega
            subst this
            rw [hx] at h3; cases h3
      | some x =>
        rw [wantN_next hx ha]
        show (putAll (ups s x.domain.toNat) (wantN s act n).d)[i]?.getD false = true ↔ _
        rw [putAll_get _ _ _ (by omega), Bool.or_eq_true, decide_eq_true_eq, ih]
        constructor
        · rintro (h | ⟨j, h1, h2⟩)
          · exact ⟨n, by omega, ha, x, hx, h⟩
          · exact ⟨j, by omega, h2⟩
        · rintro ⟨j, h1, h2, y, h3, h4⟩
          rcases Nat.lt_or_ge j n with h | h
          · exact .inr ⟨j, h, h2, y, h3, h4⟩
          · have : j = n := by omega
            subst this
            rw [hx] at h3; cases h3
            exact .inl h4
theorem wantN_c {s : Soc} {act : List Bool} (i : Nat) (hi : i < s.clocks.length) : ∀ n, (wantN s act n).c[i]?.getD false = true ↔ ∃ j, j < n ∧ hasB act j = true ∧ ∃ x, s.devs[j]? = some x ∧ i ∈ (chainL s x.clock.toNat).filter (swK s)
  | 0 => by simp [wantN, zeroW, hi]
  | n + 1 => by
    have ih := wantN_c (act := act) i hi n
    have hl := (wantN_of s act n).c
    cases ha : hasB act n with
    | false =>
      rw [wantN_skip ha, ih]
      constructor
      · rintro ⟨j, h1, h2⟩; exact ⟨j, by omega, h2⟩
      · rintro ⟨j, h1, h2, h3⟩
        rcases Nat.lt_or_ge j n with h | h
        · exact ⟨j, h, h2, h3⟩
        · have : j = n := by omega
          subst this
          rw [ha] at h2; cases h2
    | true =>
      cases hx : s.devs[n]? with
      | none =>
        have e : wantN s act (n + 1) = wantN s act n := by
          show (if hasB act n then _ else _) = _
          rw [if_pos ha, hx]
        rw [e, ih]
        constructor
        · rintro ⟨j, h1, h2⟩; exact ⟨j, by omega, h2⟩
        · rintro ⟨j, h1, h2, x, h3, h4⟩
          rcases Nat.lt_or_ge j n with h | h
          · exact ⟨j, h, h2, x, h3, h4⟩
          · have : j = n := by omega
            subst this
            rw [hx] at h3; cases h3
      | some x =>
        rw [wantN_next hx ha]
        show (putAll ((chainL s x.clock.toNat).filter (swK s)) (wantN s act n).c)[i]?.getD false = true ↔ _
        rw [putAll_get _ _ _ (by omega), Bool.or_eq_true, decide_eq_true_eq, ih]
        constructor
        · rintro (h | ⟨j, h1, h2⟩)
          · exact ⟨n, by omega, ha, x, hx, h⟩
          · exact ⟨j, by omega, h2⟩
        · rintro ⟨j, h1, h2, y, h3, h4⟩
          rcases Nat.lt_or_ge j n with h | h
          · exact .inr ⟨j, h, h2, y, h3, h4⟩
          · have : j = n := by omega
            subst this
            rw [hx] at h3; cases h3
            exact .inl h4
/-! bits -/
end Go.Proofs.Ytbgibbbggajgaaa
/- The table has success for each step of a plan, and something to be done. No walk in sight. -/
namespace Go.Proofs.Ytbgibbbggajgaaa
set_option linter.all false
open Go.RowKit
/-! what a clock hangs on -/
section
variable {s : Soc}
theorem chainN_le (hm : s.made) : ∀ (k c : Nat), ∀ i ∈ chainN s k c, i ≤ c
  | 0, c, i, h => by simp [chainN] at h
  | k + 1, c, i, h => by
    unfold chainN at h
    cases hc : s.clocks[c]? with
    | none => rw [hc] at h; simp at h
    | some x =>
      rw [hc] at h
      dsimp only at h
      cases hs : x.src with
      | nil => rw [hs] at h; simp at h; omega
      | cons f fs =>
        rw [hs] at h
        rcases List.mem_cons.1 h with rfl | h
        · exact Nat.le_refl _
        · have := chainN_le hm k _ i h
          have hf := ((hm.clocks c x hc).1) f (by rw [hs]; simp)
          omega
theorem chainN_more (hm : s.made) : ∀ (k k' c : Nat), c < k → c < k' → chainN s k c = chainN s k' c
  | 0, _, c, h, _ => by omega
  | _, 0, c, _, h => by omega
  | k + 1, k' + 1, c, h, h' => by
    unfold chainN
    cases hc : s.clocks[c]? with
    | none => rfl
    | some x =>
      dsimp only
      cases hs : x.src with
      | nil => rfl
      | cons f fs =>
        dsimp only
        have hf := ((hm.clocks c x hc).1) f (by rw [hs]; simp)
        rw [chainN_more hm k k' f.toNat (by omega) (by omega)]
theorem chainN_trans (hm : s.made) : ∀ (k c : Nat), c < k → ∀ i ∈ chainN s k c, ∀ j ∈ chainN s k i, j ∈ chainN s k c
  | 0, c, h, _, _, _, _ => by omega
  | k + 1, c, hk, i, hi, j, hj => by
    have hi' := hi
    unfold chainN at hi
    cases hc : s.clocks[c]? with
    | none => rw [hc] at hi; simp at hi
    | some x =>
      rw [hc] at hi
      dsimp only at hi
      cases hs : x.src with
      | nil => rw [hs] at hi; simp at hi; subst hi; exact hj
      | cons f fs =>
        rw [hs] at hi
        rcases List.mem_cons.1 hi with rfl | hi
        · exact hj
        · have hf := ((hm.clocks c x hc).1) f (by rw [hs]; simp)
          have hle := chainN_le hm k _ i hi
          have hj2 : j ∈ chainN s k i := by rw [chainN_more hm k (k + 1) i (by omega) (by omega)]; exact hj
          have := chainN_trans hm k f.toNat (by omega) i hi j hj2
          unfold chainN
          rw [hc]
          dsimp only
          rw [hs]
          exact List.mem_cons_of_mem _ this
theorem chainL_trans (hm : s.made) {c i j : Nat} (hc : c < s.clocks.length) (hi : i ∈ chainL s c) (hj : j ∈ chainL s i) : j ∈ chainL s c := chainN_trans hm _ c hc i hi j hj
theorem chainL_le (hm : s.made) {c i : Nat} (hi : i ∈ chainL s c) : i ≤ c := chainN_le hm _ c i hi
end
theorem hasB_eq (l : List Bool) (i : Nat) : hasB l i = l[i]?.getD false := rfl
/-- wishes that are closed: what is hung upon is wished -/
structure Wsh.cl (x : Wsh) (s : Soc) : Prop where
  of : x.of s
  up : ∀ (i : Nat) d, hasB x.d i = true → s.domains[i]? = some d → 0 ≤ d.above → hasB x.d d.above.toNat = true
  ch : ∀ i j : Nat, hasB x.c i = true → j ∈ chainL s i → swK s j = true → hasB x.c j = true
  sw : ∀ i : Nat, hasB x.c i = true → swK s i = true
theorem hasB_lt {l : List Bool} {i : Nat} (h : hasB l i = true) : i < l.length := by
  rw [hasB_eq] at h
  rcases Nat.lt_or_ge i l.length with h1 | h1
  · exact h1
  · rw [List.getElem?_eq_none h1] at h; cases h
theorem wants_cl {s : Soc} (hm : s.made) (act : List Bool) (n : Nat) : (wantN s act n).cl s := by
  have hof := wantN_of s act n
  refine ⟨hof, fun i d hi hd h0 => ?_, fun i j hi hj hs => ?_, fun i hi => ?_⟩
  · have hlt := hasB_lt hi
    rw [hof.d] at hlt
    obtain ⟨k, h1, h2, x, h3, h4⟩ := (wantN_d i hlt n).1 hi
    have hx := hm.devs k x h3
    have hdl : x.domain.toNat < s.domains.length := by obtain ⟨_, hx2, _⟩ := hx; omega
    have hup := (ups_R hm hdl).up i h4 d hd h0
    exact (wantN_d _ ((ups_R hm hdl).in_ _ hup) n).2 ⟨k, h1, h2, x, h3, hup⟩
  · have hlt := hasB_lt hi
    rw [hof.c] at hlt
    obtain ⟨k, h1, h2, x, h3, h4⟩ := (wantN_c i hlt n).1 hi
    have hx := hm.devs k x h3
    have hcl : x.clock.toNat < s.clocks.length := by obtain ⟨hx1, _⟩ := hx; omega
    rw [List.mem_filter] at h4
    have hjc := chainL_trans hm hcl h4.1 hj
    exact (wantN_c j (chainN_in s _ _ j hjc) n).2 ⟨k, h1, h2, x, h3, List.mem_filter.2 ⟨hjc, hs⟩⟩
  · have hlt := hasB_lt hi
    rw [hof.c] at hlt
    obtain ⟨k, h1, h2, x, h3, h4⟩ := (wantN_c i hlt n).1 hi
    exact (List.mem_filter.1 h4).2
/-! rows in order -/
theorem take_lt {l : List Nat} (hp : l.Pairwise (· < ·)) {t i : Nat} (hi : l[t]? = some i) (j : Nat) : j ∈ l.take t ↔ j ∈ l ∧ j < i := by
  induction l generalizing t with
  | nil => simp at hi
  | cons a r ih =>
    rw [List.pairwise_cons] at hp
    cases t with
    | zero =>
      simp at hi
      subst hi
      simp only [List.take_zero, List.not_mem_nil, false_iff, not_and, List.mem_cons]
      rintro (rfl | h) h2
      · omega
      · have := hp.1 j h; omega
    | succ t =>
      simp at hi
      have hir := hp.1 i (List.mem_of_getElem? hi)
      rw [List.take_succ_cons, List.mem_cons, List.mem_cons, ih hp.2 hi]
      constructor
      · rintro (rfl | h)
        · exact ⟨.inl rfl, hir⟩
        · exact ⟨.inr h.1, h.2⟩
      · rintro ⟨rfl | h, h2⟩
        · exact .inl rfl
        · exact .inr ⟨h, h2⟩
theorem take_gt {l : List Nat} (hp : l.Pairwise (· > ·)) {t i : Nat} (hi : l[t]? = some i) (j : Nat) : j ∈ l.take t ↔ j ∈ l ∧ i < j := by
  induction l generalizing t with
  | nil => simp at hi
  | cons a r ih =>
    rw [List.pairwise_cons] at hp
    cases t with
    | zero =>
      simp at hi
      subst hi
      simp only [List.take_zero, List.not_mem_nil, false_iff, not_and, List.mem_cons]
      rintro (rfl | h) h2
      · omega
      · have := hp.1 j h; omega
    | succ t =>
      simp at hi
      have hir := hp.1 i (List.mem_of_getElem? hi)
      rw [List.take_succ_cons, List.mem_cons, List.mem_cons, ih hp.2 hi]
      constructor
      · rintro (rfl | h)
        · exact ⟨.inl rfl, hir⟩
        · exact ⟨.inr h.1, h.2⟩
      · rintro ⟨rfl | h, h2⟩
        · exact .inl rfl
        · exact .inr ⟨h, h2⟩
theorem range_up (n : Nat) : (List.range n).Pairwise (· < ·) := List.pairwise_lt_range
theorem more_up (n : Nat) (a b : List Bool) : (moreL (List.range n) a b).Pairwise (· < ·) := (range_up n).filter _
theorem more_dn (n : Nat) (a b : List Bool) : (moreL (List.range n).reverse a b).Pairwise (· > ·) := by
  unfold moreL
  refine List.Pairwise.filter _ ?_
  rw [List.pairwise_reverse]
  exact range_up n
/-- bits, put one by one -/
theorem has_fold (b : Bool) (ids : List Nat) (l : List Bool) (j : Nat) (hj : j < l.length) : hasB (ids.foldl (fun d (i : Nat) => putB d (i : Int) b) l) j = if j ∈ ids then b else hasB l j := by
  unfold hasB
  rw [putB_fold]
  split
  · rw [List.getElem?_eq_getElem hj]; rfl
  · rfl
/-! a step's place -/
theorem app_split {α : Type} {A B : List α} {k : Nat} {p : α} (h : (A ++ B)[k]? = some p) : (A[k]? = some p ∧ (A ++ B).take k = A.take k) ∨ ∃ t, B[t]? = some p ∧ (A ++ B).take k = A ++ B.take t := by
  rcases Nat.lt_or_ge k A.length with hk | hk
  · left
    rw [List.getElem?_append_left hk] at h
    exact ⟨h, List.take_append_of_le_length (by omega)⟩
  · right
    rw [List.getElem?_append_right hk] at h
    exact ⟨k - A.length, h, by rw [List.take_append, List.take_of_length_le hk]⟩
theorem stepL_at {pr msg : Int} {val : Nat → Int} {ids : List Nat} {t : Nat} {p : Stp} (h : (stepL pr msg val ids)[t]? = some p) : ∃ i, ids[t]? = some i ∧ p = ⟨pr, msg, i, val i⟩ ∧ (stepL pr msg val ids).take t = stepL pr msg val (ids.take t) := by
  unfold stepL at h ⊢
  rw [List.getElem?_map] at h
  obtain ⟨i, hi, rfl⟩ := Option.map_eq_some_iff.1 h
  exact ⟨i, hi, rfl, by rw [List.map_take]⟩
/-- what a step does, as the table has it -/
def kindP (p : Stp) : Int := if p.pr = 17 then (if p.v = 1 then 117 else if p.v = 0 then 100 else 107) else if p.pr = 20 then (if p.v = 1 then 99 else 111) else (if p.v = 0 then 114 else 97)
/-- the table takes a step, k-th of its plan, at the wishes x -/
structure Goes (s : Soc) (x : Wsh) (p : Stp) (k : Nat) : Prop where
  pack : (packZ p.msg 0 p.pr k).2 = 0
  dec : decF s x (zeroW s) [] 0 [(packZ p.msg 0 p.pr k).1, p.id, p.v] = (0, kindP p, p.id)
  kind : kindP p ≠ 0
  done : doneX x 0 (kindP p) p.id = applyW x p
  id : 0 ≤ p.id ∧ p.id < 4294967296
  v : 0 ≤ p.v ∧ p.v < 4294967296
theorem head_st {m p : Int} {k : Nat} (hm : m = 4 ∨ m = 7) (hp : p = 17 ∨ p = 20 ∨ p = 22) (hk : k < 64) : (packZ m 0 p k).2 = 0 ∧ unpackE (packZ m 0 p k).1 = 0 ∧ hTyp (packZ m 0 p k).1 = 0 ∧ hPro (packZ m 0 p k).1 = p ∧ hMsg (packZ m 0 p k).1 = m := by
  obtain ⟨h1, h2, h3⟩ := head_ok hm hp hk
  rw [unpackH_eq] at h3
  simp only [headC, List.cons.injEq, Value.int.injEq, true_and, and_true] at h3
  exact ⟨h1, h2, h3.2.1, h3.2.2.1, h3.1⟩
theorem setBL_put {l : List Bool} {i : Nat} (hi : i < l.length) (b : Bool) : setBL l (i : Int) b = putB l (i : Int) b := by
  rw [setBL, if_pos ⟨by omega, by omega⟩]; rfl
theorem wish_has (x : Wsh) (k : Int) (i : Nat) : wishF x k (i : Int) = hasB (kindL k x) i := by
  unfold wishF; simp
theorem wished_z (s : Soc) (x : Wsh) (k i : Int) : wishedF x (zeroW s) k i = wishF x k i := by
  rw [wishedF, wish_zero, Bool.or_false]
section
variable {s : Soc} {x : Wsh} {k i : Nat}
/-- domains come up -/
theorem goes_17u (hm : s.made) (hof : x.of s) (hk : k < 64) (hi : i < s.domains.length) (hno : hasB x.d i = false) (hup : ∀ d, s.domains[i]? = some d → 0 ≤ d.above → hasB x.d d.above.toNat = true) : Goes s x ⟨17, 4, i, 1⟩ k := by
  obtain ⟨e0, e1, e2, e3, e4⟩ := head_st (m := 4) (p := 17) (.inl rfl) (.inl rfl) hk
  have hr : readF s [(packZ 4 0 17 k).1, (i : Int), 1] = (0, 117, (i : Int)) := by
    unfold readF
    dsimp only
    rw [e1, e2, e3, e4, if_neg (by simp), show frmOf 17 4 = some ⟨2, 3, 100, 117, 107⟩ from rfl, show frmD 17 4 = ⟨2, 3, 100, 117, 107⟩ from rfl]
    simp [askF, numF, Frm.act, notF, hi]
  have hd : s.domains[i]? = some s.domains[i] := List.getElem?_eq_getElem hi
  have hfit := (hm.domains i _ hd).1
  refine ⟨e0, ?_, (by show (117 : Int) ≠ 0; decide), ?_, ⟨by simp, by have := hm.nd; simp; omega⟩, ⟨by simp, by simp⟩⟩
  · show decF s x (zeroW s) [] 0 [(packZ 4 0 17 k).1, (i : Int), 1] = (0, 117, (i : Int))
    rw [dec_on hr (.inl rfl) (by decide) (by rw [if_pos rfl, wish_has]; exact hno), if_neg]
    rintro ⟨_, h2⟩
    rw [Int.toNat_natCast, hd] at h2
    simp only [Option.any_some, Bool.and_eq_true, decide_eq_true_eq, Bool.not_eq_true'] at h2
    have h0 : 0 ≤ (s.domains[i]).above := by omega
    have h3 := hup _ hd h0
    rw [wished_z, show (s.domains[i]).above = (((s.domains[i]).above.toNat : Nat) : Int) by omega, wish_has] at h2
    rw [show kindL 117 x = x.d from rfl, h3] at h2
    cases h2.2
  · show (if (0 : Nat) = 0 then setW x 117 i else x) = _
    rw [if_pos rfl]
    unfold setW applyW
    dsimp only
    rw [if_pos (.inl rfl), if_pos ⟨rfl, rfl, by decide⟩, setBL_put (by rw [hof.d]; exact hi)]
    rfl
/-- clocks come up -/
theorem goes_20u (hm : s.made) (hof : x.of s) (hk : k < 64) (hi : i < s.clocks.length) (hsw : swK s i = true) (hno : hasB x.c i = false) : Goes s x ⟨20, 7, i, 1⟩ k := by
  obtain ⟨e0, e1, e2, e3, e4⟩ := head_st (m := 7) (p := 20) (.inr rfl) (.inr (.inl rfl)) hk
  have hsw2 : swit s i := by
    have hc : s.clocks[i]? = some s.clocks[i] := List.getElem?_eq_getElem hi
    unfold swK at hsw
    unfold swit kindOf
    rw [hc] at hsw ⊢
    exact of_decide_eq_true hsw
  have hr : readF s [(packZ 7 0 20 k).1, (i : Int), 1] = (0, 99, (i : Int)) := by
    unfold readF
    dsimp only
    rw [e1, e2, e3, e4, if_neg (by simp), show frmOf 20 7 = some ⟨2, 2, 111, 99, 0⟩ from rfl, show frmD 20 7 = ⟨2, 2, 111, 99, 0⟩ from rfl]
    simp [askF, numF, Frm.act, notF, hi, hsw2]
  refine ⟨e0, ?_, (by show (99 : Int) ≠ 0; decide), ?_, ⟨by simp, by have := hm.nc; simp; omega⟩, ⟨by simp, by simp⟩⟩
  · show decF s x (zeroW s) [] 0 [(packZ 7 0 20 k).1, (i : Int), 1] = (0, 99, (i : Int))
    rw [dec_on hr (.inr (.inl rfl)) (by decide) (by rw [if_pos rfl, wish_has]; exact hno), if_neg]
    rintro ⟨h2, _⟩
    cases h2
  · show (if (0 : Nat) = 0 then setW x 99 i else x) = _
    rw [if_pos rfl]
    unfold setW applyW
    dsimp only
    rw [if_neg (by decide), if_pos (.inl rfl), if_neg (by decide), if_pos ⟨rfl, rfl, by decide⟩, setBL_put (by rw [hof.c]; exact hi)]
    rfl
/-- lines are released -/
theorem goes_22u (hm : s.made) (hof : x.of s) (hk : k < 64) (hi : i < s.resets.length) (hno : hasB x.l i = false) : Goes s x ⟨22, 4, i, 0⟩ k := by
  obtain ⟨e0, e1, e2, e3, e4⟩ := head_st (m := 4) (p := 22) (.inl rfl) (.inr (.inr rfl)) hk
  have hr : readF s [(packZ 4 0 22 k).1, (i : Int), 0] = (0, 114, (i : Int)) := by
    unfold readF
    dsimp only
    rw [e1, e2, e3, e4, if_neg (by simp), show frmOf 22 4 = some ⟨2, 2, 114, 97, 0⟩ from rfl, show frmD 22 4 = ⟨2, 2, 114, 97, 0⟩ from rfl]
    simp [askF, numF, Frm.act, notF, hi]
  refine ⟨e0, ?_, (by show (114 : Int) ≠ 0; decide), ?_, ⟨by simp, by have := hm.nr; simp; omega⟩, ⟨by simp, by simp⟩⟩
  · show decF s x (zeroW s) [] 0 [(packZ 4 0 22 k).1, (i : Int), 0] = (0, 114, (i : Int))
    rw [dec_on hr (.inr (.inr rfl)) (by decide) (by rw [if_pos rfl, wish_has]; exact hno), if_neg]
    rintro ⟨h2, _⟩
    cases h2
  · show (if (0 : Nat) = 0 then setW x 114 i else x) = _
    rw [if_pos rfl]
    unfold setW applyW
    dsimp only
    rw [if_neg (by decide), if_neg (by decide), if_pos (.inl rfl), if_neg (by decide), if_neg (by decide), if_pos ⟨rfl, rfl, by decide⟩, setBL_put (by rw [hof.l]; exact hi)]
    rfl
theorem den_zero (a : Wsh) (kd id : Int) (h : hangF s a (zeroW s) kd id = false) : deniedF s a (zeroW s) 0 kd id = false := by
  rw [deniedF, if_pos rfl, wish_zero, h]; rfl
/-- lines are held -/
theorem goes_22d (hm : s.made) (hof : x.of s) (hk : k < 64) (hi : i < s.resets.length) (hyes : hasB x.l i = true) : Goes s x ⟨22, 4, i, 1⟩ k := by
  obtain ⟨e0, e1, e2, e3, e4⟩ := head_st (m := 4) (p := 22) (.inl rfl) (.inr (.inr rfl)) hk
  have hr : readF s [(packZ 4 0 22 k).1, (i : Int), 1] = (0, 97, (i : Int)) := by
    unfold readF
    dsimp only
    rw [e1, e2, e3, e4, if_neg (by simp), show frmOf 22 4 = some ⟨2, 2, 114, 97, 0⟩ from rfl, show frmD 22 4 = ⟨2, 2, 114, 97, 0⟩ from rfl]
    simp [askF, numF, Frm.act, notF, hi]
  refine ⟨e0, ?_, (by show (97 : Int) ≠ 0; decide), ?_, ⟨by simp, by have := hm.nr; simp; omega⟩, ⟨by simp, by simp⟩⟩
  · show decF s x (zeroW s) [] 0 [(packZ 4 0 22 k).1, (i : Int), 1] = (0, 97, (i : Int))
    rw [dec_off hr (by decide) (by decide) (by rw [if_pos rfl, wish_has]; exact hyes), den_zero, busy_nil]
    · rfl
    · exact hangF_false fun j hj => absurd hj (Nat.not_lt_zero j)
  · show (if (0 : Nat) = 0 then setW x 97 i else x) = _
    rw [if_pos rfl]
    unfold setW applyW
    dsimp only
    rw [if_neg (by decide), if_neg (by decide), if_pos (.inr rfl), if_neg (by decide), if_neg (by decide), if_pos ⟨rfl, rfl, by decide⟩, setBL_put (by rw [hof.l]; exact hi)]
    rfl
/-- clocks go down -/
theorem goes_20d (hm : s.made) (hof : x.of s) (hk : k < 64) (hi : i < s.clocks.length) (hsw : swK s i = true) (hyes : hasB x.c i = true) (hno : ∀ j : Nat, j ≠ i → hasB x.c j = true → i ∉ chainL s j) : Goes s x ⟨20, 7, i, 0⟩ k := by
  obtain ⟨e0, e1, e2, e3, e4⟩ := head_st (m := 7) (p := 20) (.inr rfl) (.inr (.inl rfl)) hk
  have hsw2 : swit s i := by
    have hc : s.clocks[i]? = some s.clocks[i] := List.getElem?_eq_getElem hi
    unfold swK at hsw
    unfold swit kindOf
    rw [hc] at hsw ⊢
    exact of_decide_eq_true hsw
  have hr : readF s [(packZ 7 0 20 k).1, (i : Int), 0] = (0, 111, (i : Int)) := by
    unfold readF
    dsimp only
    rw [e1, e2, e3, e4, if_neg (by simp), show frmOf 20 7 = some ⟨2, 2, 111, 99, 0⟩ from rfl, show frmD 20 7 = ⟨2, 2, 111, 99, 0⟩ from rfl]
    simp [askF, numF, Frm.act, notF, hi, hsw2]
  refine ⟨e0, ?_, (by show (111 : Int) ≠ 0; decide), ?_, ⟨by simp, by have := hm.nc; simp; omega⟩, ⟨by simp, by simp⟩⟩
  · show decF s x (zeroW s) [] 0 [(packZ 7 0 20 k).1, (i : Int), 0] = (0, 111, (i : Int))
    rw [dec_off hr (by decide) (by decide) (by rw [if_pos rfl, wish_has]; exact hyes), den_zero, busy_nil]
    · rfl
    · refine hangF_false fun j hj => ?_
      cases ht : hangAt s x (zeroW s) 111 i j with
      | false => rfl
      | true =>
        exfalso
        unfold hangAt at ht
        rw [if_neg (by decide)] at ht
        simp only [Bool.and_eq_true, decide_eq_true_eq, wished_z, wish_has] at ht
        have hc := ht.2.2
        unfold chainB at hc
        have hmem := of_decide_eq_true hc
        rw [Int.toNat_natCast] at hmem
        refine hno j (fun e => ht.1 (by rw [e])) ht.2.1 ?_
        simp only [natI, List.mem_map] at hmem
        obtain ⟨q, h1, h2⟩ := hmem
        have h3 : (q : Int) = (i : Int) := h2
        have : q = i := by omega
        rwa [← this]
  · show (if (0 : Nat) = 0 then setW x 111 i else x) = _
    rw [if_pos rfl]
    unfold setW applyW
    dsimp only
    rw [if_neg (by decide), if_pos (.inr rfl), if_neg (by decide), if_pos ⟨rfl, rfl, by decide⟩, setBL_put (by rw [hof.c]; exact hi)]
    rfl
/-- domains go down -/
theorem goes_17d (hm : s.made) (hof : x.of s) (hk : k < 64) (hi : i < s.domains.length) (hyes : hasB x.d i = true) (hno : ∀ (j : Nat) d, s.domains[j]? = some d → d.above = (i : Int) → hasB x.d j = false) : Goes s x ⟨17, 4, i, retV s i⟩ k := by
  obtain ⟨e0, e1, e2, e3, e4⟩ := head_st (m := 4) (p := 17) (.inl rfl) (.inl rfl) hk
  have hd : s.domains[i]? = some s.domains[i] := List.getElem?_eq_getElem hi
  have hhang : ∀ kd : Int, (kd = 100 ∨ kd = 107) → hangF s x (zeroW s) kd i = false := by
    intro kd hkd
    refine hangF_false fun j hj => ?_
    cases ht : hangAt s x (zeroW s) kd i j with
    | false => rfl
    | true =>
      exfalso
      unfold hangAt at ht
      rw [if_pos hkd, Bool.and_eq_true, wished_z, wish_has] at ht
      cases hdj : s.domains[j]? with
      | none => rw [hdj] at ht; simp at ht
      | some d =>
        rw [hdj] at ht
        have ha : d.above = (i : Int) := by simpa using ht.1
        have := hno j d hdj ha
        have hl : kindL kd x = x.d := by rcases hkd with rfl | rfl <;> rfl
        rw [hl, this] at ht
        cases ht.2
  cases hret : (s.domains[i]).ret with
  | false =>
    have e : retV s i = 0 := by unfold retV; rw [hd]; simp [hret]
    rw [e]
    have hr : readF s [(packZ 4 0 17 k).1, (i : Int), 0] = (0, 100, (i : Int)) := by
      unfold readF
      dsimp only
      rw [e1, e2, e3, e4, if_neg (by simp), show frmOf 17 4 = some ⟨2, 3, 100, 117, 107⟩ from rfl, show frmD 17 4 = ⟨2, 3, 100, 117, 107⟩ from rfl]
      simp [askF, numF, Frm.act, notF, hi]
    refine ⟨e0, ?_, (by show (100 : Int) ≠ 0; decide), ?_, ⟨by simp, by have := hm.nd; simp; omega⟩, ⟨by simp, by simp⟩⟩
    · show decF s x (zeroW s) [] 0 [(packZ 4 0 17 k).1, (i : Int), 0] = (0, 100, (i : Int))
      rw [dec_off hr (by decide) (by decide) (by rw [if_pos rfl, wish_has]; exact hyes), den_zero _ _ _ (hhang 100 (.inl rfl)), busy_nil]
      rfl
    · show (if (0 : Nat) = 0 then setW x 100 i else x) = _
      rw [if_pos rfl]
      unfold setW applyW
      dsimp only
      rw [if_pos (.inr (.inl rfl)), if_pos ⟨rfl, rfl, by decide⟩, setBL_put (by rw [hof.d]; exact hi)]
      rfl
  | true =>
    have e : retV s i = 2 := by unfold retV; rw [hd]; simp [hret]
    rw [e]
    have hr : readF s [(packZ 4 0 17 k).1, (i : Int), 2] = (0, 107, (i : Int)) := by
      have hro : retOf s i = true := by unfold retOf; rw [hd]; simp [hret]
      unfold readF
      dsimp only
      rw [e1, e2, e3, e4, if_neg (by simp), show frmOf 17 4 = some ⟨2, 3, 100, 117, 107⟩ from rfl, show frmD 17 4 = ⟨2, 3, 100, 117, 107⟩ from rfl]
      simp [askF, numF, Frm.act, notF, hi, hro]
    refine ⟨e0, ?_, (by show (107 : Int) ≠ 0; decide), ?_, ⟨by simp, by have := hm.nd; simp; omega⟩, ⟨by simp, by simp⟩⟩
    · show decF s x (zeroW s) [] 0 [(packZ 4 0 17 k).1, (i : Int), 2] = (0, 107, (i : Int))
      rw [dec_off hr (by decide) (by decide) (by rw [if_pos rfl, wish_has]; exact hyes), den_zero _ _ _ (hhang 107 (.inr rfl)), busy_nil]
      rfl
    · show (if (0 : Nat) = 0 then setW x 107 i else x) = _
      rw [if_pos rfl]
      unfold setW applyW
      dsimp only
      rw [if_pos (.inr (.inr rfl)), if_pos ⟨rfl, rfl, by decide⟩, setBL_put (by rw [hof.d]; exact hi)]
      rfl
end
/-! the whole plan -/
theorem foldl_of {s : Soc} {L : List Stp} {x : Wsh} (h : x.of s) : (L.foldl applyW x).of s := by
  induction L generalizing x with
  | nil => exact h
  | cons p L ih =>
    obtain ⟨h1, h2, h3⟩ := applyW_len x p
    exact ih ⟨by rw [h1]; exact h.d, by rw [h2]; exact h.c, by rw [h3]; exact h.l⟩
section
variable {s : Soc} {x y : Wsh}
theorem turn_iff {a b : List Bool} {i : Nat} : turnB a b i = true ↔ hasB b i = true ∧ hasB a i = false := by
  unfold turnB; rw [Bool.and_eq_true, Bool.not_eq_true']
/-- rows ahead, folded -/
theorem fd_up (L : List Nat) (z : Wsh) : (stepL 17 4 (fun _ => 1) L).foldl applyW z = ⟨L.foldl (fun d (i : Nat) => putB d (i : Int) true) z.d, z.c, z.l⟩ := fold_d (val := fun _ => 1) (b := true) (fun _ => ⟨by decide, rfl⟩) L z
theorem fc_up (L : List Nat) (z : Wsh) : (stepL 20 7 (fun _ => 1) L).foldl applyW z = ⟨z.d, L.foldl (fun d (i : Nat) => putB d (i : Int) true) z.c, z.l⟩ := fold_c (val := fun _ => 1) (b := true) (fun _ => ⟨by decide, rfl⟩) L z
theorem fl_up (L : List Nat) (z : Wsh) : (stepL 22 4 (fun _ => 0) L).foldl applyW z = ⟨z.d, z.c, L.foldl (fun d (i : Nat) => putB d (i : Int) true) z.l⟩ := fold_l (val := fun _ => 0) (b := true) (fun _ => ⟨by decide, rfl⟩) L z
theorem fl_dn (L : List Nat) (z : Wsh) : (stepL 22 4 (fun _ => 1) L).foldl applyW z = ⟨z.d, z.c, L.foldl (fun d (i : Nat) => putB d (i : Int) false) z.l⟩ := fold_l (val := fun _ => 1) (b := false) (fun _ => ⟨by decide, rfl⟩) L z
theorem fc_dn (L : List Nat) (z : Wsh) : (stepL 20 7 (fun _ => 0) L).foldl applyW z = ⟨z.d, L.foldl (fun d (i : Nat) => putB d (i : Int) false) z.c, z.l⟩ := fold_c (val := fun _ => 0) (b := false) (fun _ => ⟨by decide, rfl⟩) L z
theorem fd_dn (s : Soc) (L : List Nat) (z : Wsh) : (stepL 17 4 (retV s) L).foldl applyW z = ⟨L.foldl (fun d (i : Nat) => putB d (i : Int) false) z.d, z.c, z.l⟩ := fold_d (val := retV s) (b := false) (fun k => by have := retV_01 s k; exact ⟨by omega, decide_eq_false (by omega)⟩) L z
theorem putF_len (b : Bool) (ids : List Nat) (l : List Bool) : (ids.foldl (fun d (i : Nat) => putB d (i : Int) b) l).length = l.length := by
  induction ids generalizing l with
  | nil => rfl
  | cons i ids ih => rw [List.foldl_cons, ih, putB_len]
theorem allM_goes (hm : s.made) (hx : x.cl s) (hy : y.cl s) {k : Nat} {p : Stp} (hk : (allM s x y)[k]? = some p) (hk64 : k < 64) : Goes s (((allM s x y).take k).foldl applyW x) p k := by
  have hof := foldl_of (L := (allM s x y).take k) hx.of
  unfold allM allL at hk hof ⊢
  rcases app_split hk with ⟨h1, h2⟩ | ⟨t1, h1, h2⟩
  ·
    obtain ⟨i, hi, rfl, ht⟩ := stepL_at h1
    rw [h2, ht, fd_up] at hof ⊢
    have hmem := mem_more.1 (List.mem_of_getElem? hi)
    have htl := take_lt (more_up s.domains.length x.d y.d) hi
    have hti := turn_iff.1 hmem.2
    have hcur : ∀ j, j < s.domains.length → hasB ((List.take k (moreL (List.range s.domains.length) x.d y.d)).foldl (fun d (i : Nat) => putB d (i : Int) true) x.d) j = if j ∈ List.take k (moreL (List.range s.domains.length) x.d y.d) then true else hasB x.d j := fun j hj => has_fold _ _ _ _ (by rw [hx.of.d]; exact hj)
    refine goes_17u hm hof hk64 hmem.1 ?_ fun d hd h0 => ?_
    · dsimp only
      rw [hcur i hmem.1, if_neg (fun h => by have := ((htl i).1 h).2; omega), hti.2]
    · dsimp only
      have hfit := (hm.domains i d hd).1
      have ha : d.above.toNat < s.domains.length := by omega
      rw [hcur _ ha]
      have hya := hy.up i d hti.1 hd h0
      split
      · rfl
      · rename_i hnot
        cases hxa : hasB x.d d.above.toNat with
        | true => rfl
        | false => exact absurd ((htl d.above.toNat).2 ⟨mem_more.2 ⟨ha, turn_iff.2 ⟨hya, hxa⟩⟩, by omega⟩) hnot
  · rcases app_split h1 with ⟨h3, h4⟩ | ⟨t2, h3, h4⟩
    ·
      obtain ⟨i, hi, rfl, ht⟩ := stepL_at h3
      rw [h2, h4, ht, List.foldl_append, fd_up, fc_up] at hof ⊢
      have hmem := mem_more.1 (List.mem_of_getElem? hi)
      have htl := take_lt (more_up s.clocks.length x.c y.c) hi
      have hti := turn_iff.1 hmem.2
      refine goes_20u hm hof hk64 hmem.1 (hy.sw i hti.1) ?_
      dsimp only
      rw [has_fold _ _ _ _ (by rw [hx.of.c]; exact hmem.1), if_neg (fun h => by have := ((htl i).1 h).2; omega), hti.2]
    · rcases app_split h3 with ⟨h5, h6⟩ | ⟨t3, h5, h6⟩
      ·
        obtain ⟨i, hi, rfl, ht⟩ := stepL_at h5
        rw [h2, h4, h6, ht, List.foldl_append, List.foldl_append, fd_up, fc_up, fl_up] at hof ⊢
        have hmem := mem_more.1 (List.mem_of_getElem? hi)
        have htl := take_lt (more_up s.resets.length x.l y.l) hi
        have hti := turn_iff.1 hmem.2
        refine goes_22u hm hof hk64 hmem.1 ?_
        dsimp only
        rw [has_fold _ _ _ _ (by rw [hx.of.l]; exact hmem.1), if_neg (fun h => by have := ((htl i).1 h).2; omega), hti.2]
      · rcases app_split h5 with ⟨h7, h8⟩ | ⟨t4, h7, h8⟩
        ·
          obtain ⟨i, hi, rfl, ht⟩ := stepL_at h7
          rw [h2, h4, h6, h8, ht, List.foldl_append, List.foldl_append, List.foldl_append, fd_up, fc_up, fl_up, fl_dn] at hof ⊢
          have hmem := mem_more.1 (List.mem_of_getElem? hi)
          have htl := take_lt (more_up s.resets.length y.l x.l) hi
          have hti := turn_iff.1 hmem.2
          refine goes_22d hm hof hk64 hmem.1 ?_
          dsimp only
          rw [has_fold _ _ _ _ (by rw [putF_len, hx.of.l]; exact hmem.1), if_neg (fun h => by have := ((htl i).1 h).2; omega), has_fold _ _ _ _ (by rw [hx.of.l]; exact hmem.1)]
          split
          · rfl
          · exact hti.1
        · rcases app_split h7 with ⟨h9, h10⟩ | ⟨t5, h9, h10⟩
          ·
            obtain ⟨i, hi, rfl, ht⟩ := stepL_at h9
            rw [h2, h4, h6, h8, h10, ht, List.foldl_append, List.foldl_append, List.foldl_append, List.foldl_append, fd_up, fc_up, fl_up, fl_dn, fc_dn] at hof ⊢
            have hmem := mem_moreR.1 (List.mem_of_getElem? hi)
            have htg := take_gt (more_dn s.clocks.length y.c x.c) hi
            have hti := turn_iff.1 hmem.2
            have hcur : ∀ j, j < s.clocks.length → hasB ((List.take t4 (moreL (List.range s.clocks.length).reverse y.c x.c)).foldl (fun d (i : Nat) => putB d (i : Int) false) ((moreL (List.range s.clocks.length) x.c y.c).foldl (fun d (i : Nat) => putB d (i : Int) true) x.c)) j = if j ∈ List.take t4 (moreL (List.range s.clocks.length).reverse y.c x.c) then false else if j ∈ moreL (List.range s.clocks.length) x.c y.c then true else hasB x.c j := fun j hj => by
              rw [has_fold _ _ _ _ (by rw [putF_len, hx.of.c]; exact hj), has_fold _ _ _ _ (by rw [hx.of.c]; exact hj)]
            refine goes_20d hm hof hk64 hmem.1 (hx.sw i hti.1) ?_ fun j hji hj hch => ?_
            · dsimp only
              rw [hcur i hmem.1, if_neg (fun h => by have := ((htg i).1 h).2; omega)]
              split
              · rfl
              · exact hti.1
            · dsimp only at hj
              have hjl := hasB_lt hj
              rw [putF_len, putF_len, hx.of.c] at hjl
              rw [hcur j hjl] at hj
              have hle := chainL_le hm hch
              have hyj : hasB y.c j = true := by
                split at hj
                · cases hj
                · rename_i hnot
                  split at hj
                  · rename_i hup; exact (turn_iff.1 (mem_more.1 hup).2).1
                  · cases hyj : hasB y.c j with
                    | true => rfl
                    | false => exact absurd ((htg j).2 ⟨mem_moreR.2 ⟨hjl, turn_iff.2 ⟨hj, hyj⟩⟩, by omega⟩) hnot
              have := hy.ch j i hyj hch (hx.sw i hti.1)
              rw [hti.2] at this
              cases this
          ·
            obtain ⟨i, hi, rfl, ht⟩ := stepL_at h9
            rw [h2, h4, h6, h8, h10, ht, List.foldl_append, List.foldl_append, List.foldl_append, List.foldl_append, List.foldl_append, fd_up, fc_up, fl_up, fl_dn, fc_dn, fd_dn] at hof ⊢
            have hmem := mem_moreR.1 (List.mem_of_getElem? hi)
            have htg := take_gt (more_dn s.domains.length y.d x.d) hi
            have hti := turn_iff.1 hmem.2
            have hcur : ∀ j, j < s.domains.length → hasB ((List.take t5 (moreL (List.range s.domains.length).reverse y.d x.d)).foldl (fun d (i : Nat) => putB d (i : Int) false) ((moreL (List.range s.domains.length) x.d y.d).foldl (fun d (i : Nat) => putB d (i : Int) true) x.d)) j = if j ∈ List.take t5 (moreL (List.range s.domains.length).reverse y.d x.d) then false else if j ∈ moreL (List.range s.domains.length) x.d y.d then true else hasB x.d j := fun j hj => by
              rw [has_fold _ _ _ _ (by rw [putF_len, hx.of.d]; exact hj), has_fold _ _ _ _ (by rw [hx.of.d]; exact hj)]
            refine goes_17d hm hof hk64 hmem.1 ?_ fun j d hd hab => ?_
            · dsimp only
              rw [hcur i hmem.1, if_neg (fun h => by have := ((htg i).1 h).2; omega)]
              split
              · rfl
              · exact hti.1
            · dsimp only
              have hjl := (List.getElem?_eq_some_iff.1 hd).1
              have hfit := (hm.domains j d hd).1
              rw [hcur j hjl]
              split
              · rfl
              · rename_i hnot
                have key : hasB y.d j = false := by
                  cases hyj : hasB y.d j with
                  | false => rfl
                  | true =>
                    have := hy.up j d hyj hd (by omega)
                    rw [show d.above.toNat = i by omega, hti.2] at this
                    cases this
                split
                · rename_i hup
                  have := (turn_iff.1 (mem_more.1 hup).2).1
                  rw [key] at this; cases this
                · cases hxj : hasB x.d j with
                  | false => rfl
                  | true => exact absurd ((htg j).2 ⟨mem_moreR.2 ⟨hjl, turn_iff.2 ⟨hxj, key⟩⟩, by omega⟩) hnot
end
/-! no step stands twice -/
def apart (p q : Stp) : Prop := ¬ (p.pr = q.pr ∧ p.id = q.id)
theorem stepL_mem {pr msg : Int} {val : Nat → Int} {ids : List Nat} {p : Stp} (h : p ∈ stepL pr msg val ids) : ∃ i : Nat, i ∈ ids ∧ p.pr = pr ∧ p.id = (i : Int) := by
  unfold stepL at h
  obtain ⟨i, hi, rfl⟩ := List.mem_map.1 h
  exact ⟨i, hi, rfl, rfl⟩
theorem stepL_apart {pr msg : Int} {val : Nat → Int} {ids : List Nat} (h : ids.Pairwise (fun a b => a ≠ b)) : (stepL pr msg val ids).Pairwise apart := by
  unfold stepL
  rw [List.pairwise_map]
  refine h.imp fun {a b} hab => ?_
  rintro ⟨_, h2⟩
  have h3 : (a : Int) = (b : Int) := h2
  omega
theorem rows_apart {pr pr' msg msg' : Int} {val val' : Nat → Int} {ids ids' : List Nat} (h : pr ≠ pr' ∨ ∀ i, i ∈ ids → i ∉ ids') : ∀ p ∈ stepL pr msg val ids, ∀ q ∈ stepL pr' msg' val' ids', apart p q := by
  intro p hp q hq ⟨h1, h2⟩
  obtain ⟨i, hi, e1, e2⟩ := stepL_mem hp
  obtain ⟨j, hj, e3, e4⟩ := stepL_mem hq
  rcases h with h | h
  · exact h (by rw [← e1, h1, e3])
  · have : i = j := by omega
    exact h i hi (this ▸ hj)
theorem app_apart {A B C : List Stp} (h1 : ∀ p ∈ A, ∀ q ∈ B, apart p q) (h2 : ∀ p ∈ A, ∀ q ∈ C, apart p q) : ∀ p ∈ A, ∀ q ∈ B ++ C, apart p q := fun p hp q hq => (List.mem_append.1 hq).elim (h1 p hp q) (h2 p hp q)
theorem ne_of_lt' {l : List Nat} (h : l.Pairwise (· < ·)) : l.Pairwise (fun a b => a ≠ b) := h.imp fun h => by omega
theorem ne_of_gt' {l : List Nat} (h : l.Pairwise (· > ·)) : l.Pairwise (fun a b => a ≠ b) := h.imp fun h => by omega
theorem turn_not {n : Nat} {a b : List Bool} : ∀ i, i ∈ moreL (List.range n) a b → i ∉ moreL (List.range n) b a := fun i h h' => by
  have h1 := turn_iff.1 (mem_more.1 h).2
  have h2 := turn_iff.1 (mem_more.1 h').2
  rw [h1.1] at h2; cases h2.2
theorem turn_notR {n : Nat} {a b : List Bool} : ∀ i, i ∈ moreL (List.range n) a b → i ∉ moreL (List.range n).reverse b a := fun i h h' => by
  have h1 := turn_iff.1 (mem_more.1 h).2
  have h2 := turn_iff.1 (mem_moreR.1 h').2
  rw [h1.1] at h2; cases h2.2
theorem allM_apart (s : Soc) (x y : Wsh) : (allM s x y).Pairwise apart := by
  unfold allM allL
  have n1 := stepL_apart (pr := 17) (msg := 4) (val := fun _ => 1) (ne_of_lt' (more_up s.domains.length x.d y.d))
  have n2 := stepL_apart (pr := 20) (msg := 7) (val := fun _ => 1) (ne_of_lt' (more_up s.clocks.length x.c y.c))
  have n3 := stepL_apart (pr := 22) (msg := 4) (val := fun _ => 0) (ne_of_lt' (more_up s.resets.length x.l y.l))
  have n4 := stepL_apart (pr := 22) (msg := 4) (val := fun _ => 1) (ne_of_lt' (more_up s.resets.length y.l x.l))
  have n5 := stepL_apart (pr := 20) (msg := 7) (val := fun _ => 0) (ne_of_gt' (more_dn s.clocks.length y.c x.c))
  have n6 := stepL_apart (pr := 17) (msg := 4) (val := retV s) (ne_of_gt' (more_dn s.domains.length y.d x.d))
  have d : ∀ {a b : Int}, a ≠ b → (a ≠ b ∨ ∀ i : Nat, i ∈ ([] : List Nat) → i ∉ ([] : List Nat)) := fun h => .inl h
  refine List.pairwise_append.2 ⟨n1, List.pairwise_append.2 ⟨n2, List.pairwise_append.2 ⟨n3, List.pairwise_append.2 ⟨n4, List.pairwise_append.2 ⟨n5, n6, rows_apart (.inl (by decide))⟩, app_apart (rows_apart (.inl (by decide))) (rows_apart (.inl (by decide)))⟩, app_apart (rows_apart (.inr turn_not)) (app_apart (rows_apart (.inl (by decide))) (rows_apart (.inl (by decide))))⟩, app_apart (rows_apart (.inl (by decide))) (app_apart (rows_apart (.inl (by decide))) (app_apart (rows_apart (.inr turn_notR)) (rows_apart (.inl (by decide)))))⟩, ?_⟩
  exact app_apart (rows_apart (.inl (by decide))) (app_apart (rows_apart (.inl (by decide))) (app_apart (rows_apart (.inl (by decide))) (app_apart (rows_apart (.inl (by decide))) (rows_apart (.inr turn_notR)))))
theorem apart_at {l : List Stp} (h : l.Pairwise apart) {i k : Nat} {p q : Stp} (hk : l[k]? = some p) (hi : l[i]? = some q) (hlt : k < i) : apart p q := by
  obtain ⟨h1, rfl⟩ := List.getElem?_eq_some_iff.1 hk
  obtain ⟨h2, rfl⟩ := List.getElem?_eq_some_iff.1 hi
  exact List.pairwise_iff_getElem.1 h k i h1 h2 hlt
theorem WshR.join {q : Piece} {x y : Wsh} {v1 v2 v3 v4 v5 v6 : Value} (h1 : WshR q x (.agg #[v1, v2, v3])) (h2 : WshR q y (.agg #[v4, v5, v6])) : StR q x y (.agg #[v1, v2, v3, v4, v5, v6]) := by
  obtain ⟨A1, k1, A2, k2, A3, k3, e1, a1, a2, a3⟩ := h1
  obtain ⟨B1, m1, B2, m2, B3, m3, e2, b1, b2, b3⟩ := h2
  simp only [Value.agg.injEq, Array.mk.injEq, List.cons.injEq] at e1 e2
  obtain ⟨rfl, rfl, rfl, _⟩ := e1
  obtain ⟨rfl, rfl, rfl, _⟩ := e2
  exact ⟨A1, k1, A2, k2, A3, k3, B1, m1, B2, m2, B3, m3, rfl, a1, a2, a3, b1, b2, b3⟩
theorem StR.split {q : Piece} {x y : Wsh} {v1 v2 v3 v4 v5 v6 : Value} (h : StR q x y (.agg #[v1, v2, v3, v4, v5, v6])) : WshR q x (.agg #[v1, v2, v3]) ∧ WshR q y (.agg #[v4, v5, v6]) := by
  obtain ⟨A1, k1, A2, k2, A3, k3, B1, m1, B2, m2, B3, m3, e, a1, a2, a3, b1, b2, b3⟩ := h
  simp only [Value.agg.injEq, Array.mk.injEq, List.cons.injEq] at e
  obtain ⟨rfl, rfl, rfl, rfl, rfl, rfl, _⟩ := e
  exact ⟨⟨A1, k1, A2, k2, A3, k3, rfl, a1, a2, a3⟩, ⟨B1, m1, B2, m2, B3, m3, rfl, b1, b2, b3⟩⟩
section
variable {w0 : World} {R : List Piece} {H : List HP}
theorem RdN.three (i : Nat) {b : Nat} {t : TypeId} {v1 v2 v3 : Value} {cs : List Value} (hi : H[i]? = some (HP.blk b t (v1 :: v2 :: v3 :: cs))) : RdN w0 R H b 0 [v1, v2, v3] := .of fun j v hv => by
  rw [Nat.zero_add]
  refine Rd.blk i hi ?_
  match j, hv with
  | 0, hv => exact hv
  | 1, hv => exact hv
  | 2, hv => exact hv
end
end Go.Proofs.Ytbgibbbggajgaaa
