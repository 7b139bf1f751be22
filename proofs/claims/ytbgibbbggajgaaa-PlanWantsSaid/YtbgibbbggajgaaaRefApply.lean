/- the reference's answer: what is wished behind a step. -/
import Derived.Test.YtbgibbbggajgaaaApply
namespace Go.Proofs.Ytbgibbbggajgaaa
set_option linter.all false
open Go.RowKit
def PutOk (l : List Bool) (v : Value) (w w' : World) : Prop := ∃ A c, v = .slice A l.length c ∧ SlS (fresh w w') 1 A l.length (boolCells l)
/-- wishes that lie in what there was, and in what is new -/
def WishOkP (p0 : Piece) (x : Wsh) (v : Value) (w w' : World) : Prop := ∀ q, p0.Le q → (fresh w w').Le q → WshR q x v

theorem put17_any (A : Option Addr) (c : Nat) (l : List Bool) (id : Int) (b : Bool) (w : World) (hs : SlS (all w) 1 A l.length (boolCells l)) (hn : l.length ≤ 1000000) (hid : 0 ≤ id ∧ id < 4294967296) :
    Calls Try.prog 50 #[.slice A l.length c, .int .u32 id, .bool b] w (RtW (PutOk (putB l id b)) w) := by
  refine XK.enter (vs := [.slice A l.length c, .int .u32 id, .bool b]) Try.func50 rfl Try.ntmps50 (by simp) ?_
  refine XK.seq ?_

  refine XK.region ?_
  refine xk_assign rfl (by decide) ?_
  refine XK.nil ?_
  (repeat (first | refine XK.thenN ?_ | refine XK.thenE ?_ | refine XK.thenR ?_ | refine XK.inN ?_ | refine XK.inE ?_ | refine XK.inR ?_ | refine XK.inF rfl ?_))
  refine XK.seq ?_

  refine XK.region ?_
  refine xk_slice0 (el := 4) (sz := 1) (by kernel_rfl) (by kernel_rfl) (by decide) fun g => ?_
  refine XK.asOwn 0 1 0 rfl rfl (by omega) ?_
  dsimp only [List.set]
  refine xk_move rfl (by decide) ?_
  refine xk_appendT 0 1 1 l.length (n' := l.length) (el := 4) (by kernel_rfl) (by kernel_rfl) (by decide) rfl rfl rfl (sl_ro (by simp) hs) (boolCells_one _) (by omega) (by omega) (by omega) (by decide) fun A' k' => ?_
  dsimp only [List.set, List.nil_append]
  refine xk_assign rfl (by decide) ?_
  refine XK.nil ?_
  (repeat (first | refine XK.thenN ?_ | refine XK.thenE ?_ | refine XK.thenR ?_ | refine XK.inN ?_ | refine XK.inE ?_ | refine XK.inR ?_ | refine XK.inF rfl ?_))
  refine XK.seq ?_
  refine XK.seq ?_

  refine XK.region ?_
  refine xk_move rfl (by decide) ?_
  refine xk_move rfl (by decide) ?_
  refine xk_len (el := 4) (by kernel_rfl) rfl (by decide) ?_
  refine xk_conv (ds := .int .i64) (by kernel_rfl) (by kernel_rfl) rfl (wrap_u32 (by omega)) (by decide) ?_
  refine xk_lss rfl rfl (by decide) ?_
  refine XK.nil ?_
  (repeat (first | refine XK.thenN ?_ | refine XK.thenE ?_ | refine XK.thenR ?_ | refine XK.inN ?_ | refine XK.inE ?_ | refine XK.inR ?_ | refine XK.inF rfl ?_))
  refine XK.if_ rfl (fun h => ?_) (fun h => ?_)
  ·
    have h' : id < (l.length : Int) := h
    obtain ⟨k, hk⟩ : ∃ k : Nat, id = (k : Int) := ⟨id.toNat, by omega⟩
    refine XK.ownHead 0 rfl (by omega) fun gD hD => ?_
    subst hD

    refine XK.region ?_
    refine xk_move rfl (by decide) ?_
    refine xk_move rfl (by decide) ?_
    refine xk_move rfl (by decide) ?_
    refine xk_at (k) (k) (el := 4) (sz := 1) (by kernel_rfl) (by kernel_rfl) rfl rfl (by omega) (by omega) (by omega) (by decide) ?_
    refine xk_storeOwn 0 k rfl (by kernel_rfl) rfl (by omega) rfl rfl (by omega) ?_
    dsimp only [List.set]
    rw [boolCells_set, show l.set k b = putB l id b by rw [putB, hk]; simp]
    refine XK.nil ?_
    (repeat (first | refine XK.thenN ?_ | refine XK.thenE ?_ | refine XK.thenR ?_ | refine XK.inN ?_ | refine XK.inE ?_ | refine XK.inR ?_ | refine XK.inF rfl ?_))
    refine XK.seq ?_

    refine XK.region ?_
    refine xk_move rfl (by decide) ?_
    refine xk_assign rfl (by decide) ?_
    refine XK.nil ?_
    (repeat (first | refine XK.thenN ?_ | refine XK.thenE ?_ | refine XK.thenR ?_ | refine XK.inN ?_ | refine XK.inE ?_ | refine XK.inR ?_ | refine XK.inF rfl ?_))
    refine XK.ret ?_
    (repeat (first | refine XK.thenN ?_ | refine XK.thenE ?_ | refine XK.thenR ?_ | refine XK.inN ?_ | refine XK.inE ?_ | refine XK.inR ?_ | refine XK.inF rfl ?_))
    refine XK.still [] [0] [] (by simp) rfl (by decide) (by decide) fun qf hqf _ hfr => ?_
    have s1 := SlS.own (hqf 0 _ (by simp) rfl)
    exact XK.ret1 rfl rfl fun w1 st => ⟨⟨_, rfl, by
      have hl := st.fresh_le (by simp) (hfr (by simp) (by simp))
      unfold PutOk
      rw [putB_len]
      exact ⟨_, _, rfl, s1.le hl⟩⟩, st.below (by simp)⟩
  ·
    refine XK.skip ?_
    (repeat (first | refine XK.thenN ?_ | refine XK.thenE ?_ | refine XK.thenR ?_ | refine XK.inN ?_ | refine XK.inE ?_ | refine XK.inR ?_ | refine XK.inF rfl ?_))
    refine XK.seq ?_

    refine XK.region ?_
    refine xk_move rfl (by decide) ?_
    refine xk_assign rfl (by decide) ?_
    refine XK.nil ?_
    (repeat (first | refine XK.thenN ?_ | refine XK.thenE ?_ | refine XK.thenR ?_ | refine XK.inN ?_ | refine XK.inE ?_ | refine XK.inR ?_ | refine XK.inF rfl ?_))
    refine XK.ret ?_
    (repeat (first | refine XK.thenN ?_ | refine XK.thenE ?_ | refine XK.thenR ?_ | refine XK.inN ?_ | refine XK.inE ?_ | refine XK.inR ?_ | refine XK.inF rfl ?_))
    have h' : ¬ id < (l.length : Int) := h
    refine XK.still [] [0] [] (by simp) rfl (by decide) (by decide) fun qf hqf _ hfr => ?_
    have s1 := SlS.own (hqf 0 _ (by simp) rfl)
    exact XK.ret1 rfl rfl fun w1 st => ⟨⟨_, rfl, by
      have hl := st.fresh_le (by simp) (hfr (by simp) (by simp))
      unfold PutOk
      rw [putB_len]
      exact ⟨_, _, rfl, by rw [putB_out (by omega) h']; exact s1.le hl⟩⟩, st.below (by simp)⟩

theorem refApply_any (p0 : Piece) (v1 : Value) (x : Wsh) (p : Stp) (w : World) (hp0 : p0.Le (all w)) (hx : WshR p0 x v1) (hsx : x.sm) (hp : p.ok) :
    Calls Try.prog 25 #[v1, .agg #[.int .i64 p.pr, .int .i64 p.msg, .int .u32 p.id, .int .u32 p.v]] w (RtW (WishOkP p0 (applyW x p)) w) := by
  obtain ⟨A1, k1, A2, k2, A3, k3, rfl, hx1, hx2, hx3⟩ := hx
  have hpi := hp.id
  refine XK.enter (vs := [.agg #[.slice A1 x.d.length k1, .slice A2 x.c.length k2, .slice A3 x.l.length k3], .agg #[.int .i64 p.pr, .int .i64 p.msg, .int .u32 p.id, .int .u32 p.v]]) Try.func25 rfl Try.ntmps25 (by simp) ?_
  refine XK.seq ?_

  refine XK.region ?_
  refine xk_box rfl (by decide) fun g1 => ?_
  refine xk_box rfl (by decide) fun g2 => ?_
  refine xk_alloc (cs := [.slice none 0 0, .slice none 0 0, .slice none 0 0]) (zeroB_of (by kernel_rfl)) (by decide) fun g3 => ?_
  refine XK.nil ?_
  (repeat (first | refine XK.thenN ?_ | refine XK.thenE ?_ | refine XK.thenR ?_ | refine XK.inN ?_ | refine XK.inE ?_ | refine XK.inR ?_ | refine XK.inF rfl ?_))
  refine XK.seq ?_
  refine XK.block ?_
  refine XK.cutB 5 (p.pr = 17 ∧ p.msg = 4 ∧ p.v ≤ 2) ?_ ?_
  · skip

    refine XK.region ?_
    refine xk_field (off := 0) (by kernel_rfl) rfl (by decide) ?_
    refine xk_load (by kernel_rfl) rfl (by first | assumption | exact Rd.blk 0 rfl rfl | exact Rd.blk 1 rfl rfl | exact Rd.blk 2 rfl rfl | exact Rd.blk 3 rfl rfl | exact Rd.blk 4 rfl rfl | exact Rd.blk 5 rfl rfl | exact Rd.blk 6 rfl rfl | exact Rd.blk 7 rfl rfl | exact Rd.blk 8 rfl rfl | exact Rd.roc (by simp) (by assumption) | (apply Rd.rocN (by simp); assumption; rfl)) (by decide) ?_
    refine xk_eql rfl rfl (by decide) ?_
    refine xk_move rfl (by decide) ?_
    refine xk_split (t := 9) rfl (fun hg => ?_) (fun hg => ?_)
    ·
      refine xk_guardT rfl rfl ?_; refine xk_field (off := 1) (by kernel_rfl) rfl (by decide) ?_
      refine xk_guardT rfl rfl ?_; refine xk_load (by kernel_rfl) rfl (by first | assumption | exact Rd.blk 0 rfl rfl | exact Rd.blk 1 rfl rfl | exact Rd.blk 2 rfl rfl | exact Rd.blk 3 rfl rfl | exact Rd.blk 4 rfl rfl | exact Rd.blk 5 rfl rfl | exact Rd.blk 6 rfl rfl | exact Rd.blk 7 rfl rfl | exact Rd.blk 8 rfl rfl | exact Rd.roc (by simp) (by assumption) | (apply Rd.rocN (by simp); assumption; rfl)) (by decide) ?_
      refine xk_guardT rfl rfl ?_; refine xk_eql rfl rfl (by decide) ?_
      (first | refine xk_pickT rfl rfl (by decide) ?_ | refine xk_pickF rfl rfl (by decide) ?_)
      refine xk_move rfl (by decide) ?_
      refine xk_split (t := 14) rfl (fun hg => ?_) (fun hg => ?_)
      ·
        refine xk_guardT rfl rfl ?_; refine xk_field (off := 3) (by kernel_rfl) rfl (by decide) ?_
        refine xk_guardT rfl rfl ?_; refine xk_load (by kernel_rfl) rfl (by first | assumption | exact Rd.blk 0 rfl rfl | exact Rd.blk 1 rfl rfl | exact Rd.blk 2 rfl rfl | exact Rd.blk 3 rfl rfl | exact Rd.blk 4 rfl rfl | exact Rd.blk 5 rfl rfl | exact Rd.blk 6 rfl rfl | exact Rd.blk 7 rfl rfl | exact Rd.blk 8 rfl rfl | exact Rd.roc (by simp) (by assumption) | (apply Rd.rocN (by simp); assumption; rfl)) (by decide) ?_
        refine xk_guardT rfl rfl ?_; refine xk_leq rfl rfl (by decide) ?_
        (first | refine xk_pickT rfl rfl (by decide) ?_ | refine xk_pickF rfl rfl (by decide) ?_)
        refine xk_assign rfl (by decide) ?_
        refine XK.nil ?_
        (repeat (first | refine XK.thenN ?_ | refine XK.thenE ?_ | refine XK.thenR ?_ | refine XK.inN ?_ | refine XK.inE ?_ | refine XK.inR ?_ | refine XK.inF rfl ?_))
        exact XK.meetB (by repeat (first | exact trivial | refine ⟨rfl, ?_⟩)) (by first | exact get_iff rfl (by first | omega | simp_all) | exact get_false rfl (by first | omega | simp_all))
      ·
        refine xk_guardF rfl rfl rfl (by decide) ?_
        refine xk_guardF rfl rfl rfl (by decide) ?_
        refine xk_guardF rfl rfl rfl (by decide) ?_
        (first | refine xk_pickT rfl rfl (by decide) ?_ | refine xk_pickF rfl rfl (by decide) ?_)
        refine xk_assign rfl (by decide) ?_
        refine XK.nil ?_
        (repeat (first | refine XK.thenN ?_ | refine XK.thenE ?_ | refine XK.thenR ?_ | refine XK.inN ?_ | refine XK.inE ?_ | refine XK.inR ?_ | refine XK.inF rfl ?_))
        exact XK.meetB (by repeat (first | exact trivial | refine ⟨rfl, ?_⟩)) (by first | exact get_iff rfl (by first | omega | simp_all) | exact get_false rfl (by first | omega | simp_all))
    ·
      refine xk_guardF rfl rfl rfl (by decide) ?_
      refine xk_guardF rfl rfl rfl (by decide) ?_
      refine xk_guardF rfl rfl rfl (by decide) ?_
      (first | refine xk_pickT rfl rfl (by decide) ?_ | refine xk_pickF rfl rfl (by decide) ?_)
      refine xk_move rfl (by decide) ?_
      refine xk_guardF rfl rfl rfl (by decide) ?_
      refine xk_guardF rfl rfl rfl (by decide) ?_
      refine xk_guardF rfl rfl rfl (by decide) ?_
      (first | refine xk_pickT rfl rfl (by decide) ?_ | refine xk_pickF rfl rfl (by decide) ?_)
      refine xk_assign rfl (by decide) ?_
      refine XK.nil ?_
      (repeat (first | refine XK.thenN ?_ | refine XK.thenE ?_ | refine XK.thenR ?_ | refine XK.inN ?_ | refine XK.inE ?_ | refine XK.inR ?_ | refine XK.inF rfl ?_))
      exact XK.meetB (by repeat (first | exact trivial | refine ⟨rfl, ?_⟩)) (by first | exact get_iff rfl (by first | omega | simp_all) | exact get_false rfl (by first | omega | simp_all))
  refine XK.if_ rfl (fun hc1 => ?_) (fun hc1 => ?_)
  ·

    refine XK.region ?_
    refine xk_field (off := 0) (by kernel_rfl) rfl (by decide) ?_
    refine xk_load (by kernel_rfl) rfl (by first | assumption | exact Rd.blk 0 rfl rfl | exact Rd.blk 1 rfl rfl | exact Rd.blk 2 rfl rfl | exact Rd.blk 3 rfl rfl | exact Rd.blk 4 rfl rfl | exact Rd.blk 5 rfl rfl | exact Rd.blk 6 rfl rfl | exact Rd.blk 7 rfl rfl | exact Rd.blk 8 rfl rfl | exact Rd.roc (by simp) (by assumption) | (apply Rd.rocN (by simp); assumption; rfl)) (by decide) ?_
    refine xk_field (off := 2) (by kernel_rfl) rfl (by decide) ?_
    refine xk_load (by kernel_rfl) rfl (by first | assumption | exact Rd.blk 0 rfl rfl | exact Rd.blk 1 rfl rfl | exact Rd.blk 2 rfl rfl | exact Rd.blk 3 rfl rfl | exact Rd.blk 4 rfl rfl | exact Rd.blk 5 rfl rfl | exact Rd.blk 6 rfl rfl | exact Rd.blk 7 rfl rfl | exact Rd.blk 8 rfl rfl | exact Rd.roc (by simp) (by assumption) | (apply Rd.rocN (by simp); assumption; rfl)) (by decide) ?_
    refine xk_field (off := 3) (by kernel_rfl) rfl (by decide) ?_
    refine xk_load (by kernel_rfl) rfl (by first | assumption | exact Rd.blk 0 rfl rfl | exact Rd.blk 1 rfl rfl | exact Rd.blk 2 rfl rfl | exact Rd.blk 3 rfl rfl | exact Rd.blk 4 rfl rfl | exact Rd.blk 5 rfl rfl | exact Rd.blk 6 rfl rfl | exact Rd.blk 7 rfl rfl | exact Rd.blk 8 rfl rfl | exact Rd.roc (by simp) (by assumption) | (apply Rd.rocN (by simp); assumption; rfl)) (by decide) ?_
    refine xk_eql rfl rfl (by decide) ?_
    refine xk_call [] (f := 50) (fi := []) (ca := []) (by kernel_rfl) rfl rfl (by decide) (by simp) (PutOk (putB x.d p.id (decide (p.v = 1)))) (fun w1 st => put17_any A1 k1 x.d p.id (decide (p.v = 1)) w1 ((hx1.le hp0).le (st.le (by simp))) hsx.d hpi) ?_
    rintro _ w1 qn ⟨B, m, rfl, hB⟩ hf _ Fr
    have hB := hB.le hf
    rw [putB_len] at hB
    clear hf
    refine xk_field (off := 0) (by kernel_rfl) rfl (by decide) ?_
    (first | (refine xk_store 0 rfl (by kernel_rfl) rfl rfl rfl (by first | (simp; done) | (simp [Value.cells]; done)) ?_) | (refine xk_store 1 rfl (by kernel_rfl) rfl rfl rfl (by first | (simp; done) | (simp [Value.cells]; done)) ?_) | (refine xk_store 2 rfl (by kernel_rfl) rfl rfl rfl (by first | (simp; done) | (simp [Value.cells]; done)) ?_) | (refine xk_store 3 rfl (by kernel_rfl) rfl rfl rfl (by first | (simp; done) | (simp [Value.cells]; done)) ?_) | (refine xk_store 4 rfl (by kernel_rfl) rfl rfl rfl (by first | (simp; done) | (simp [Value.cells]; done)) ?_) | (refine xk_store 5 rfl (by kernel_rfl) rfl rfl rfl (by first | (simp; done) | (simp [Value.cells]; done)) ?_) | (refine xk_store 6 rfl (by kernel_rfl) rfl rfl rfl (by first | (simp; done) | (simp [Value.cells]; done)) ?_) | (refine xk_store 7 rfl (by kernel_rfl) rfl rfl rfl (by first | (simp; done) | (simp [Value.cells]; done)) ?_) | (refine xk_store 8 rfl (by kernel_rfl) rfl rfl rfl (by first | (simp; done) | (simp [Value.cells]; done)) ?_)); dsimp only [List.set]
    refine XK.nil ?_
    (repeat (first | refine XK.thenN ?_ | refine XK.thenE ?_ | refine XK.thenR ?_ | refine XK.inN ?_ | refine XK.inE ?_ | refine XK.inR ?_ | refine XK.inF rfl ?_))
    refine XK.seq ?_

    refine XK.region ?_
    refine xk_loadN 3 (by kernel_rfl) rfl (by first | assumption | exact RdN.whole 0 rfl | exact RdN.whole 1 rfl | exact RdN.whole 2 rfl | exact RdN.whole 3 rfl | exact RdN.whole 4 rfl | exact RdN.whole 5 rfl | exact RdN.whole 6 rfl | exact RdN.whole 7 rfl | exact RdN.whole 8 rfl | exact RdN.roc (by simp) (by assumption)) rfl (by decide) ?_
    (first | (refine xk_storeN 0 rfl rfl rfl (by kernel_rfl) (by simp [Value.cells, Value.oneCell']) (by simp [Value.cells]) ?_) | (refine xk_storeN 1 rfl rfl rfl (by kernel_rfl) (by simp [Value.cells, Value.oneCell']) (by simp [Value.cells]) ?_) | (refine xk_storeN 2 rfl rfl rfl (by kernel_rfl) (by simp [Value.cells, Value.oneCell']) (by simp [Value.cells]) ?_) | (refine xk_storeN 3 rfl rfl rfl (by kernel_rfl) (by simp [Value.cells, Value.oneCell']) (by simp [Value.cells]) ?_) | (refine xk_storeN 4 rfl rfl rfl (by kernel_rfl) (by simp [Value.cells, Value.oneCell']) (by simp [Value.cells]) ?_) | (refine xk_storeN 5 rfl rfl rfl (by kernel_rfl) (by simp [Value.cells, Value.oneCell']) (by simp [Value.cells]) ?_) | (refine xk_storeN 6 rfl rfl rfl (by kernel_rfl) (by simp [Value.cells, Value.oneCell']) (by simp [Value.cells]) ?_) | (refine xk_storeN 7 rfl rfl rfl (by kernel_rfl) (by simp [Value.cells, Value.oneCell']) (by simp [Value.cells]) ?_) | (refine xk_storeN 8 rfl rfl rfl (by kernel_rfl) (by simp [Value.cells, Value.oneCell']) (by simp [Value.cells]) ?_)); simp only [putN, Value.cells, List.set, List.take, List.drop, List.nil_append, List.append_nil, List.length_cons, List.length_nil, List.cons_append, Nat.reduceAdd]
    refine XK.nil ?_
    (repeat (first | refine XK.thenN ?_ | refine XK.thenE ?_ | refine XK.thenR ?_ | refine XK.inN ?_ | refine XK.inE ?_ | refine XK.inR ?_ | refine XK.inF rfl ?_))
    refine XK.ret ?_
    (repeat (first | refine XK.thenN ?_ | refine XK.thenE ?_ | refine XK.thenR ?_ | refine XK.inN ?_ | refine XK.inE ?_ | refine XK.inR ?_ | refine XK.inF rfl ?_))
    exact XK.retC rfl (by kernel_rfl) rfl rfl (RdN.whole 0 rfl) fun w1 st => ⟨⟨_, rfl, fun q h0 h1 => by
      have e1 : applyW x p = ⟨putB x.d p.id (decide (p.v = 1)), x.c, x.l⟩ := by unfold applyW; rw [if_pos hc1]
      rw [e1]
      unfold WshR
      simp only [putB_len]
      exact ⟨_, _, _, _, _, _, rfl, hB.le (Piece.Le.trans (st.fresh_le (by simp) (Fr (by simp))) h1), hx2.le h0, hx3.le h0⟩⟩, st.below (by simp)⟩
  ·
    refine XK.cutB 28 (p.pr = 20 ∧ p.msg = 7 ∧ p.v ≤ 1) ?_ ?_
    · skip

      refine XK.region ?_
      refine xk_field (off := 0) (by kernel_rfl) rfl (by decide) ?_
      refine xk_load (by kernel_rfl) rfl (by first | assumption | exact Rd.blk 0 rfl rfl | exact Rd.blk 1 rfl rfl | exact Rd.blk 2 rfl rfl | exact Rd.blk 3 rfl rfl | exact Rd.blk 4 rfl rfl | exact Rd.blk 5 rfl rfl | exact Rd.blk 6 rfl rfl | exact Rd.blk 7 rfl rfl | exact Rd.blk 8 rfl rfl | exact Rd.roc (by simp) (by assumption) | (apply Rd.rocN (by simp); assumption; rfl)) (by decide) ?_
      refine xk_eql rfl rfl (by decide) ?_
      refine xk_move rfl (by decide) ?_
      refine xk_split (t := 32) rfl (fun hg => ?_) (fun hg => ?_)
      ·
        refine xk_guardT rfl rfl ?_; refine xk_field (off := 1) (by kernel_rfl) rfl (by decide) ?_
        refine xk_guardT rfl rfl ?_; refine xk_load (by kernel_rfl) rfl (by first | assumption | exact Rd.blk 0 rfl rfl | exact Rd.blk 1 rfl rfl | exact Rd.blk 2 rfl rfl | exact Rd.blk 3 rfl rfl | exact Rd.blk 4 rfl rfl | exact Rd.blk 5 rfl rfl | exact Rd.blk 6 rfl rfl | exact Rd.blk 7 rfl rfl | exact Rd.blk 8 rfl rfl | exact Rd.roc (by simp) (by assumption) | (apply Rd.rocN (by simp); assumption; rfl)) (by decide) ?_
        refine xk_guardT rfl rfl ?_; refine xk_eql rfl rfl (by decide) ?_
        (first | refine xk_pickT rfl rfl (by decide) ?_ | refine xk_pickF rfl rfl (by decide) ?_)
        refine xk_move rfl (by decide) ?_
        refine xk_split (t := 37) rfl (fun hg => ?_) (fun hg => ?_)
        ·
          refine xk_guardT rfl rfl ?_; refine xk_field (off := 3) (by kernel_rfl) rfl (by decide) ?_
          refine xk_guardT rfl rfl ?_; refine xk_load (by kernel_rfl) rfl (by first | assumption | exact Rd.blk 0 rfl rfl | exact Rd.blk 1 rfl rfl | exact Rd.blk 2 rfl rfl | exact Rd.blk 3 rfl rfl | exact Rd.blk 4 rfl rfl | exact Rd.blk 5 rfl rfl | exact Rd.blk 6 rfl rfl | exact Rd.blk 7 rfl rfl | exact Rd.blk 8 rfl rfl | exact Rd.roc (by simp) (by assumption) | (apply Rd.rocN (by simp); assumption; rfl)) (by decide) ?_
          refine xk_guardT rfl rfl ?_; refine xk_leq rfl rfl (by decide) ?_
          (first | refine xk_pickT rfl rfl (by decide) ?_ | refine xk_pickF rfl rfl (by decide) ?_)
          refine xk_assign rfl (by decide) ?_
          refine XK.nil ?_
          (repeat (first | refine XK.thenN ?_ | refine XK.thenE ?_ | refine XK.thenR ?_ | refine XK.inN ?_ | refine XK.inE ?_ | refine XK.inR ?_ | refine XK.inF rfl ?_))
          exact XK.meetB (by repeat (first | exact trivial | refine ⟨rfl, ?_⟩)) (by first | exact get_iff rfl (by first | omega | simp_all) | exact get_false rfl (by first | omega | simp_all))
        ·
          refine xk_guardF rfl rfl rfl (by decide) ?_
          refine xk_guardF rfl rfl rfl (by decide) ?_
          refine xk_guardF rfl rfl rfl (by decide) ?_
          (first | refine xk_pickT rfl rfl (by decide) ?_ | refine xk_pickF rfl rfl (by decide) ?_)
          refine xk_assign rfl (by decide) ?_
          refine XK.nil ?_
          (repeat (first | refine XK.thenN ?_ | refine XK.thenE ?_ | refine XK.thenR ?_ | refine XK.inN ?_ | refine XK.inE ?_ | refine XK.inR ?_ | refine XK.inF rfl ?_))
          exact XK.meetB (by repeat (first | exact trivial | refine ⟨rfl, ?_⟩)) (by first | exact get_iff rfl (by first | omega | simp_all) | exact get_false rfl (by first | omega | simp_all))
      ·
        refine xk_guardF rfl rfl rfl (by decide) ?_
        refine xk_guardF rfl rfl rfl (by decide) ?_
        refine xk_guardF rfl rfl rfl (by decide) ?_
        (first | refine xk_pickT rfl rfl (by decide) ?_ | refine xk_pickF rfl rfl (by decide) ?_)
        refine xk_move rfl (by decide) ?_
        refine xk_guardF rfl rfl rfl (by decide) ?_
        refine xk_guardF rfl rfl rfl (by decide) ?_
        refine xk_guardF rfl rfl rfl (by decide) ?_
        (first | refine xk_pickT rfl rfl (by decide) ?_ | refine xk_pickF rfl rfl (by decide) ?_)
        refine xk_assign rfl (by decide) ?_
        refine XK.nil ?_
        (repeat (first | refine XK.thenN ?_ | refine XK.thenE ?_ | refine XK.thenR ?_ | refine XK.inN ?_ | refine XK.inE ?_ | refine XK.inR ?_ | refine XK.inF rfl ?_))
        exact XK.meetB (by repeat (first | exact trivial | refine ⟨rfl, ?_⟩)) (by first | exact get_iff rfl (by first | omega | simp_all) | exact get_false rfl (by first | omega | simp_all))
    refine XK.if_ rfl (fun hc2 => ?_) (fun hc2 => ?_)
    ·

      refine XK.region ?_
      refine xk_field (off := 1) (by kernel_rfl) rfl (by decide) ?_
      refine xk_load (by kernel_rfl) rfl (by first | assumption | exact Rd.blk 0 rfl rfl | exact Rd.blk 1 rfl rfl | exact Rd.blk 2 rfl rfl | exact Rd.blk 3 rfl rfl | exact Rd.blk 4 rfl rfl | exact Rd.blk 5 rfl rfl | exact Rd.blk 6 rfl rfl | exact Rd.blk 7 rfl rfl | exact Rd.blk 8 rfl rfl | exact Rd.roc (by simp) (by assumption) | (apply Rd.rocN (by simp); assumption; rfl)) (by decide) ?_
      refine xk_field (off := 2) (by kernel_rfl) rfl (by decide) ?_
      refine xk_load (by kernel_rfl) rfl (by first | assumption | exact Rd.blk 0 rfl rfl | exact Rd.blk 1 rfl rfl | exact Rd.blk 2 rfl rfl | exact Rd.blk 3 rfl rfl | exact Rd.blk 4 rfl rfl | exact Rd.blk 5 rfl rfl | exact Rd.blk 6 rfl rfl | exact Rd.blk 7 rfl rfl | exact Rd.blk 8 rfl rfl | exact Rd.roc (by simp) (by assumption) | (apply Rd.rocN (by simp); assumption; rfl)) (by decide) ?_
      refine xk_field (off := 3) (by kernel_rfl) rfl (by decide) ?_
      refine xk_load (by kernel_rfl) rfl (by first | assumption | exact Rd.blk 0 rfl rfl | exact Rd.blk 1 rfl rfl | exact Rd.blk 2 rfl rfl | exact Rd.blk 3 rfl rfl | exact Rd.blk 4 rfl rfl | exact Rd.blk 5 rfl rfl | exact Rd.blk 6 rfl rfl | exact Rd.blk 7 rfl rfl | exact Rd.blk 8 rfl rfl | exact Rd.roc (by simp) (by assumption) | (apply Rd.rocN (by simp); assumption; rfl)) (by decide) ?_
      refine xk_eql rfl rfl (by decide) ?_
      refine xk_call [] (f := 50) (fi := []) (ca := []) (by kernel_rfl) rfl rfl (by decide) (by simp) (PutOk (putB x.c p.id (decide (p.v = 1)))) (fun w1 st => put17_any A2 k2 x.c p.id (decide (p.v = 1)) w1 ((hx2.le hp0).le (st.le (by simp))) hsx.c hpi) ?_
      rintro _ w1 qn ⟨B, m, rfl, hB⟩ hf _ Fr
      have hB := hB.le hf
      rw [putB_len] at hB
      clear hf
      refine xk_field (off := 1) (by kernel_rfl) rfl (by decide) ?_
      (first | (refine xk_store 0 rfl (by kernel_rfl) rfl rfl rfl (by first | (simp; done) | (simp [Value.cells]; done)) ?_) | (refine xk_store 1 rfl (by kernel_rfl) rfl rfl rfl (by first | (simp; done) | (simp [Value.cells]; done)) ?_) | (refine xk_store 2 rfl (by kernel_rfl) rfl rfl rfl (by first | (simp; done) | (simp [Value.cells]; done)) ?_) | (refine xk_store 3 rfl (by kernel_rfl) rfl rfl rfl (by first | (simp; done) | (simp [Value.cells]; done)) ?_) | (refine xk_store 4 rfl (by kernel_rfl) rfl rfl rfl (by first | (simp; done) | (simp [Value.cells]; done)) ?_) | (refine xk_store 5 rfl (by kernel_rfl) rfl rfl rfl (by first | (simp; done) | (simp [Value.cells]; done)) ?_) | (refine xk_store 6 rfl (by kernel_rfl) rfl rfl rfl (by first | (simp; done) | (simp [Value.cells]; done)) ?_) | (refine xk_store 7 rfl (by kernel_rfl) rfl rfl rfl (by first | (simp; done) | (simp [Value.cells]; done)) ?_) | (refine xk_store 8 rfl (by kernel_rfl) rfl rfl rfl (by first | (simp; done) | (simp [Value.cells]; done)) ?_)); dsimp only [List.set]
      refine XK.nil ?_
      (repeat (first | refine XK.thenN ?_ | refine XK.thenE ?_ | refine XK.thenR ?_ | refine XK.inN ?_ | refine XK.inE ?_ | refine XK.inR ?_ | refine XK.inF rfl ?_))
      refine XK.seq ?_

      refine XK.region ?_
      refine xk_loadN 3 (by kernel_rfl) rfl (by first | assumption | exact RdN.whole 0 rfl | exact RdN.whole 1 rfl | exact RdN.whole 2 rfl | exact RdN.whole 3 rfl | exact RdN.whole 4 rfl | exact RdN.whole 5 rfl | exact RdN.whole 6 rfl | exact RdN.whole 7 rfl | exact RdN.whole 8 rfl | exact RdN.roc (by simp) (by assumption)) rfl (by decide) ?_
      (first | (refine xk_storeN 0 rfl rfl rfl (by kernel_rfl) (by simp [Value.cells, Value.oneCell']) (by simp [Value.cells]) ?_) | (refine xk_storeN 1 rfl rfl rfl (by kernel_rfl) (by simp [Value.cells, Value.oneCell']) (by simp [Value.cells]) ?_) | (refine xk_storeN 2 rfl rfl rfl (by kernel_rfl) (by simp [Value.cells, Value.oneCell']) (by simp [Value.cells]) ?_) | (refine xk_storeN 3 rfl rfl rfl (by kernel_rfl) (by simp [Value.cells, Value.oneCell']) (by simp [Value.cells]) ?_) | (refine xk_storeN 4 rfl rfl rfl (by kernel_rfl) (by simp [Value.cells, Value.oneCell']) (by simp [Value.cells]) ?_) | (refine xk_storeN 5 rfl rfl rfl (by kernel_rfl) (by simp [Value.cells, Value.oneCell']) (by simp [Value.cells]) ?_) | (refine xk_storeN 6 rfl rfl rfl (by kernel_rfl) (by simp [Value.cells, Value.oneCell']) (by simp [Value.cells]) ?_) | (refine xk_storeN 7 rfl rfl rfl (by kernel_rfl) (by simp [Value.cells, Value.oneCell']) (by simp [Value.cells]) ?_) | (refine xk_storeN 8 rfl rfl rfl (by kernel_rfl) (by simp [Value.cells, Value.oneCell']) (by simp [Value.cells]) ?_)); simp only [putN, Value.cells, List.set, List.take, List.drop, List.nil_append, List.append_nil, List.length_cons, List.length_nil, List.cons_append, Nat.reduceAdd]
      refine XK.nil ?_
      (repeat (first | refine XK.thenN ?_ | refine XK.thenE ?_ | refine XK.thenR ?_ | refine XK.inN ?_ | refine XK.inE ?_ | refine XK.inR ?_ | refine XK.inF rfl ?_))
      refine XK.ret ?_
      (repeat (first | refine XK.thenN ?_ | refine XK.thenE ?_ | refine XK.thenR ?_ | refine XK.inN ?_ | refine XK.inE ?_ | refine XK.inR ?_ | refine XK.inF rfl ?_))
      exact XK.retC rfl (by kernel_rfl) rfl rfl (RdN.whole 0 rfl) fun w1 st => ⟨⟨_, rfl, fun q h0 h1 => by
        have e1 : applyW x p = ⟨x.d, putB x.c p.id (decide (p.v = 1)), x.l⟩ := by unfold applyW; rw [if_neg hc1, if_pos hc2]
        rw [e1]
        unfold WshR
        simp only [putB_len]
        exact ⟨_, _, _, _, _, _, rfl, hx1.le h0, hB.le (Piece.Le.trans (st.fresh_le (by simp) (Fr (by simp))) h1), hx3.le h0⟩⟩, st.below (by simp)⟩
    ·
      refine XK.cutB 51 (p.pr = 22 ∧ p.msg = 4 ∧ p.v ≤ 1) ?_ ?_
      · skip

        refine XK.region ?_
        refine xk_field (off := 0) (by kernel_rfl) rfl (by decide) ?_
        refine xk_load (by kernel_rfl) rfl (by first | assumption | exact Rd.blk 0 rfl rfl | exact Rd.blk 1 rfl rfl | exact Rd.blk 2 rfl rfl | exact Rd.blk 3 rfl rfl | exact Rd.blk 4 rfl rfl | exact Rd.blk 5 rfl rfl | exact Rd.blk 6 rfl rfl | exact Rd.blk 7 rfl rfl | exact Rd.blk 8 rfl rfl | exact Rd.roc (by simp) (by assumption) | (apply Rd.rocN (by simp); assumption; rfl)) (by decide) ?_
        refine xk_eql rfl rfl (by decide) ?_
        refine xk_move rfl (by decide) ?_
        refine xk_split (t := 55) rfl (fun hg => ?_) (fun hg => ?_)
        ·
          refine xk_guardT rfl rfl ?_; refine xk_field (off := 1) (by kernel_rfl) rfl (by decide) ?_
          refine xk_guardT rfl rfl ?_; refine xk_load (by kernel_rfl) rfl (by first | assumption | exact Rd.blk 0 rfl rfl | exact Rd.blk 1 rfl rfl | exact Rd.blk 2 rfl rfl | exact Rd.blk 3 rfl rfl | exact Rd.blk 4 rfl rfl | exact Rd.blk 5 rfl rfl | exact Rd.blk 6 rfl rfl | exact Rd.blk 7 rfl rfl | exact Rd.blk 8 rfl rfl | exact Rd.roc (by simp) (by assumption) | (apply Rd.rocN (by simp); assumption; rfl)) (by decide) ?_
          refine xk_guardT rfl rfl ?_; refine xk_eql rfl rfl (by decide) ?_
          (first | refine xk_pickT rfl rfl (by decide) ?_ | refine xk_pickF rfl rfl (by decide) ?_)
          refine xk_move rfl (by decide) ?_
          refine xk_split (t := 60) rfl (fun hg => ?_) (fun hg => ?_)
          ·
            refine xk_guardT rfl rfl ?_; refine xk_field (off := 3) (by kernel_rfl) rfl (by decide) ?_
            refine xk_guardT rfl rfl ?_; refine xk_load (by kernel_rfl) rfl (by first | assumption | exact Rd.blk 0 rfl rfl | exact Rd.blk 1 rfl rfl | exact Rd.blk 2 rfl rfl | exact Rd.blk 3 rfl rfl | exact Rd.blk 4 rfl rfl | exact Rd.blk 5 rfl rfl | exact Rd.blk 6 rfl rfl | exact Rd.blk 7 rfl rfl | exact Rd.blk 8 rfl rfl | exact Rd.roc (by simp) (by assumption) | (apply Rd.rocN (by simp); assumption; rfl)) (by decide) ?_
            refine xk_guardT rfl rfl ?_; refine xk_leq rfl rfl (by decide) ?_
            (first | refine xk_pickT rfl rfl (by decide) ?_ | refine xk_pickF rfl rfl (by decide) ?_)
            refine xk_assign rfl (by decide) ?_
            refine XK.nil ?_
            (repeat (first | refine XK.thenN ?_ | refine XK.thenE ?_ | refine XK.thenR ?_ | refine XK.inN ?_ | refine XK.inE ?_ | refine XK.inR ?_ | refine XK.inF rfl ?_))
            exact XK.meetB (by repeat (first | exact trivial | refine ⟨rfl, ?_⟩)) (by first | exact get_iff rfl (by first | omega | simp_all) | exact get_false rfl (by first | omega | simp_all))
          ·
            refine xk_guardF rfl rfl rfl (by decide) ?_
            refine xk_guardF rfl rfl rfl (by decide) ?_
            refine xk_guardF rfl rfl rfl (by decide) ?_
            (first | refine xk_pickT rfl rfl (by decide) ?_ | refine xk_pickF rfl rfl (by decide) ?_)
            refine xk_assign rfl (by decide) ?_
            refine XK.nil ?_
            (repeat (first | refine XK.thenN ?_ | refine XK.thenE ?_ | refine XK.thenR ?_ | refine XK.inN ?_ | refine XK.inE ?_ | refine XK.inR ?_ | refine XK.inF rfl ?_))
            exact XK.meetB (by repeat (first | exact trivial | refine ⟨rfl, ?_⟩)) (by first | exact get_iff rfl (by first | omega | simp_all) | exact get_false rfl (by first | omega | simp_all))
        ·
          refine xk_guardF rfl rfl rfl (by decide) ?_
          refine xk_guardF rfl rfl rfl (by decide) ?_
          refine xk_guardF rfl rfl rfl (by decide) ?_
          (first | refine xk_pickT rfl rfl (by decide) ?_ | refine xk_pickF rfl rfl (by decide) ?_)
          refine xk_move rfl (by decide) ?_
          refine xk_guardF rfl rfl rfl (by decide) ?_
          refine xk_guardF rfl rfl rfl (by decide) ?_
          refine xk_guardF rfl rfl rfl (by decide) ?_
          (first | refine xk_pickT rfl rfl (by decide) ?_ | refine xk_pickF rfl rfl (by decide) ?_)
          refine xk_assign rfl (by decide) ?_
          refine XK.nil ?_
          (repeat (first | refine XK.thenN ?_ | refine XK.thenE ?_ | refine XK.thenR ?_ | refine XK.inN ?_ | refine XK.inE ?_ | refine XK.inR ?_ | refine XK.inF rfl ?_))
          exact XK.meetB (by repeat (first | exact trivial | refine ⟨rfl, ?_⟩)) (by first | exact get_iff rfl (by first | omega | simp_all) | exact get_false rfl (by first | omega | simp_all))
      refine XK.if_ rfl (fun hc3 => ?_) (fun hc3 => ?_)
      ·

        refine XK.region ?_
        refine xk_field (off := 2) (by kernel_rfl) rfl (by decide) ?_
        refine xk_load (by kernel_rfl) rfl (by first | assumption | exact Rd.blk 0 rfl rfl | exact Rd.blk 1 rfl rfl | exact Rd.blk 2 rfl rfl | exact Rd.blk 3 rfl rfl | exact Rd.blk 4 rfl rfl | exact Rd.blk 5 rfl rfl | exact Rd.blk 6 rfl rfl | exact Rd.blk 7 rfl rfl | exact Rd.blk 8 rfl rfl | exact Rd.roc (by simp) (by assumption) | (apply Rd.rocN (by simp); assumption; rfl)) (by decide) ?_
        refine xk_field (off := 2) (by kernel_rfl) rfl (by decide) ?_
        refine xk_load (by kernel_rfl) rfl (by first | assumption | exact Rd.blk 0 rfl rfl | exact Rd.blk 1 rfl rfl | exact Rd.blk 2 rfl rfl | exact Rd.blk 3 rfl rfl | exact Rd.blk 4 rfl rfl | exact Rd.blk 5 rfl rfl | exact Rd.blk 6 rfl rfl | exact Rd.blk 7 rfl rfl | exact Rd.blk 8 rfl rfl | exact Rd.roc (by simp) (by assumption) | (apply Rd.rocN (by simp); assumption; rfl)) (by decide) ?_
        refine xk_field (off := 3) (by kernel_rfl) rfl (by decide) ?_
        refine xk_load (by kernel_rfl) rfl (by first | assumption | exact Rd.blk 0 rfl rfl | exact Rd.blk 1 rfl rfl | exact Rd.blk 2 rfl rfl | exact Rd.blk 3 rfl rfl | exact Rd.blk 4 rfl rfl | exact Rd.blk 5 rfl rfl | exact Rd.blk 6 rfl rfl | exact Rd.blk 7 rfl rfl | exact Rd.blk 8 rfl rfl | exact Rd.roc (by simp) (by assumption) | (apply Rd.rocN (by simp); assumption; rfl)) (by decide) ?_
        refine xk_eql rfl rfl (by decide) ?_
        refine xk_call [] (f := 50) (fi := []) (ca := []) (by kernel_rfl) rfl rfl (by decide) (by simp) (PutOk (putB x.l p.id (decide (p.v = 0)))) (fun w1 st => put17_any A3 k3 x.l p.id (decide (p.v = 0)) w1 ((hx3.le hp0).le (st.le (by simp))) hsx.l hpi) ?_
        rintro _ w1 qn ⟨B, m, rfl, hB⟩ hf _ Fr
        have hB := hB.le hf
        rw [putB_len] at hB
        clear hf
        refine xk_field (off := 2) (by kernel_rfl) rfl (by decide) ?_
        (first | (refine xk_store 0 rfl (by kernel_rfl) rfl rfl rfl (by first | (simp; done) | (simp [Value.cells]; done)) ?_) | (refine xk_store 1 rfl (by kernel_rfl) rfl rfl rfl (by first | (simp; done) | (simp [Value.cells]; done)) ?_) | (refine xk_store 2 rfl (by kernel_rfl) rfl rfl rfl (by first | (simp; done) | (simp [Value.cells]; done)) ?_) | (refine xk_store 3 rfl (by kernel_rfl) rfl rfl rfl (by first | (simp; done) | (simp [Value.cells]; done)) ?_) | (refine xk_store 4 rfl (by kernel_rfl) rfl rfl rfl (by first | (simp; done) | (simp [Value.cells]; done)) ?_) | (refine xk_store 5 rfl (by kernel_rfl) rfl rfl rfl (by first | (simp; done) | (simp [Value.cells]; done)) ?_) | (refine xk_store 6 rfl (by kernel_rfl) rfl rfl rfl (by first | (simp; done) | (simp [Value.cells]; done)) ?_) | (refine xk_store 7 rfl (by kernel_rfl) rfl rfl rfl (by first | (simp; done) | (simp [Value.cells]; done)) ?_) | (refine xk_store 8 rfl (by kernel_rfl) rfl rfl rfl (by first | (simp; done) | (simp [Value.cells]; done)) ?_)); dsimp only [List.set]
        refine XK.nil ?_
        (repeat (first | refine XK.thenN ?_ | refine XK.thenE ?_ | refine XK.thenR ?_ | refine XK.inN ?_ | refine XK.inE ?_ | refine XK.inR ?_ | refine XK.inF rfl ?_))
        refine XK.seq ?_

        refine XK.region ?_
        refine xk_loadN 3 (by kernel_rfl) rfl (by first | assumption | exact RdN.whole 0 rfl | exact RdN.whole 1 rfl | exact RdN.whole 2 rfl | exact RdN.whole 3 rfl | exact RdN.whole 4 rfl | exact RdN.whole 5 rfl | exact RdN.whole 6 rfl | exact RdN.whole 7 rfl | exact RdN.whole 8 rfl | exact RdN.roc (by simp) (by assumption)) rfl (by decide) ?_
        (first | (refine xk_storeN 0 rfl rfl rfl (by kernel_rfl) (by simp [Value.cells, Value.oneCell']) (by simp [Value.cells]) ?_) | (refine xk_storeN 1 rfl rfl rfl (by kernel_rfl) (by simp [Value.cells, Value.oneCell']) (by simp [Value.cells]) ?_) | (refine xk_storeN 2 rfl rfl rfl (by kernel_rfl) (by simp [Value.cells, Value.oneCell']) (by simp [Value.cells]) ?_) | (refine xk_storeN 3 rfl rfl rfl (by kernel_rfl) (by simp [Value.cells, Value.oneCell']) (by simp [Value.cells]) ?_) | (refine xk_storeN 4 rfl rfl rfl (by kernel_rfl) (by simp [Value.cells, Value.oneCell']) (by simp [Value.cells]) ?_) | (refine xk_storeN 5 rfl rfl rfl (by kernel_rfl) (by simp [Value.cells, Value.oneCell']) (by simp [Value.cells]) ?_) | (refine xk_storeN 6 rfl rfl rfl (by kernel_rfl) (by simp [Value.cells, Value.oneCell']) (by simp [Value.cells]) ?_) | (refine xk_storeN 7 rfl rfl rfl (by kernel_rfl) (by simp [Value.cells, Value.oneCell']) (by simp [Value.cells]) ?_) | (refine xk_storeN 8 rfl rfl rfl (by kernel_rfl) (by simp [Value.cells, Value.oneCell']) (by simp [Value.cells]) ?_)); simp only [putN, Value.cells, List.set, List.take, List.drop, List.nil_append, List.append_nil, List.length_cons, List.length_nil, List.cons_append, Nat.reduceAdd]
        refine XK.nil ?_
        (repeat (first | refine XK.thenN ?_ | refine XK.thenE ?_ | refine XK.thenR ?_ | refine XK.inN ?_ | refine XK.inE ?_ | refine XK.inR ?_ | refine XK.inF rfl ?_))
        refine XK.ret ?_
        (repeat (first | refine XK.thenN ?_ | refine XK.thenE ?_ | refine XK.thenR ?_ | refine XK.inN ?_ | refine XK.inE ?_ | refine XK.inR ?_ | refine XK.inF rfl ?_))
        exact XK.retC rfl (by kernel_rfl) rfl rfl (RdN.whole 0 rfl) fun w1 st => ⟨⟨_, rfl, fun q h0 h1 => by
          have e1 : applyW x p = ⟨x.d, x.c, putB x.l p.id (decide (p.v = 0))⟩ := by unfold applyW; rw [if_neg hc1, if_neg hc2, if_pos hc3]
          rw [e1]
          unfold WshR
          simp only [putB_len]
          exact ⟨_, _, _, _, _, _, rfl, hx1.le h0, hx2.le h0, hB.le (Piece.Le.trans (st.fresh_le (by simp) (Fr (by simp))) h1)⟩⟩, st.below (by simp)⟩
      ·
        refine XK.skip ?_
        (repeat (first | refine XK.thenN ?_ | refine XK.thenE ?_ | refine XK.thenR ?_ | refine XK.inN ?_ | refine XK.inE ?_ | refine XK.inR ?_ | refine XK.inF rfl ?_))
        refine XK.seq ?_

        refine XK.region ?_
        refine xk_loadN 3 (by kernel_rfl) rfl (by first | assumption | exact RdN.whole 0 rfl | exact RdN.whole 1 rfl | exact RdN.whole 2 rfl | exact RdN.whole 3 rfl | exact RdN.whole 4 rfl | exact RdN.whole 5 rfl | exact RdN.whole 6 rfl | exact RdN.whole 7 rfl | exact RdN.whole 8 rfl | exact RdN.roc (by simp) (by assumption)) rfl (by decide) ?_
        (first | (refine xk_storeN 0 rfl rfl rfl (by kernel_rfl) (by simp [Value.cells, Value.oneCell']) (by simp [Value.cells]) ?_) | (refine xk_storeN 1 rfl rfl rfl (by kernel_rfl) (by simp [Value.cells, Value.oneCell']) (by simp [Value.cells]) ?_) | (refine xk_storeN 2 rfl rfl rfl (by kernel_rfl) (by simp [Value.cells, Value.oneCell']) (by simp [Value.cells]) ?_) | (refine xk_storeN 3 rfl rfl rfl (by kernel_rfl) (by simp [Value.cells, Value.oneCell']) (by simp [Value.cells]) ?_) | (refine xk_storeN 4 rfl rfl rfl (by kernel_rfl) (by simp [Value.cells, Value.oneCell']) (by simp [Value.cells]) ?_) | (refine xk_storeN 5 rfl rfl rfl (by kernel_rfl) (by simp [Value.cells, Value.oneCell']) (by simp [Value.cells]) ?_) | (refine xk_storeN 6 rfl rfl rfl (by kernel_rfl) (by simp [Value.cells, Value.oneCell']) (by simp [Value.cells]) ?_) | (refine xk_storeN 7 rfl rfl rfl (by kernel_rfl) (by simp [Value.cells, Value.oneCell']) (by simp [Value.cells]) ?_) | (refine xk_storeN 8 rfl rfl rfl (by kernel_rfl) (by simp [Value.cells, Value.oneCell']) (by simp [Value.cells]) ?_)); simp only [putN, Value.cells, List.set, List.take, List.drop, List.nil_append, List.append_nil, List.length_cons, List.length_nil, List.cons_append, Nat.reduceAdd]
        refine XK.nil ?_
        (repeat (first | refine XK.thenN ?_ | refine XK.thenE ?_ | refine XK.thenR ?_ | refine XK.inN ?_ | refine XK.inE ?_ | refine XK.inR ?_ | refine XK.inF rfl ?_))
        refine XK.ret ?_
        (repeat (first | refine XK.thenN ?_ | refine XK.thenE ?_ | refine XK.thenR ?_ | refine XK.inN ?_ | refine XK.inE ?_ | refine XK.inR ?_ | refine XK.inF rfl ?_))
        exact XK.retC rfl (by kernel_rfl) rfl rfl (RdN.whole 0 rfl) fun w1 st => ⟨⟨_, rfl, fun q h0 h1 => by
          have e1 : applyW x p = ⟨x.d, x.c, x.l⟩ := by unfold applyW; rw [if_neg hc1, if_neg hc2, if_neg hc3]
          rw [e1]
          unfold WshR
          exact ⟨_, _, _, _, _, _, rfl, hx1.le h0, hx2.le h0, hx3.le h0⟩⟩, st.below (by simp)⟩

end Go.Proofs.Ytbgibbbggajgaaa
