/- conf.Check: what is told of any chip. -/
import Derived.Test.YtbgibbbggajgaaaConf3
namespace Go.Proofs.Ytbgibbbggajgaaa
set_option linter.all false
open Go.RowKit
def fullE (s : Soc) : Int := if (12 : Int) < s.clocks.length ∨ (6 : Int) < s.domains.length ∨ (6 : Int) < s.resets.length ∨ (6 : Int) < s.devs.length then 8 else firstE (s.devs.map manyE)
def checkL (s : Soc) : List Int := [fullE s, firstE (s.clocks.map (clockE s.clocks.length)), cycE (clocksG s), firstE (s.domains.map (domainE s.domains.length)), cycE (domsG s), firstE (s.resets.map resetE),
  firstE (s.devs.map (deviceE s.clocks.length s.domains.length s.resets.length s.devs.length)), cycE (needsG s)]
def checkS (s : Soc) : Int := firstE (checkL s)
theorem RsR.rows {α : Type} {w : World} {R : α → List Value → Prop} {t : TypeId} {sz n : Nat} {A : Option Addr} {es : List α} (h : RsR (slq (all w)) R t sz A n es) (h1 : ∀ e r, R e r → ∀ u ∈ r, u.oneCell' = true) :
    ∃ rows : List (List Value), SlS (all w) sz A n rows.flatten ∧ (∀ r ∈ rows, r.length = sz) ∧ (∀ r ∈ rows, ∀ u ∈ r, u.oneCell' = true) ∧ rows.length = n ∧ n = es.length ∧ ∀ (i : Nat) (r : List Value), rows[i]? = some r → ∃ e, es[i]? = some e ∧ R e r := by
  obtain ⟨rows, h2, h3, h4⟩ := h
  refine ⟨rows, h4, h2.all_len, fun r hr => ?_, by rw [h2.len.1, h3], h3, fun i r hr => ?_⟩
  · obtain ⟨i, hi⟩ := List.getElem?_of_mem hr
    obtain ⟨e, _, _, hR⟩ := h2.at_ hi
    exact h1 e r hR
  · obtain ⟨e, he, _, hR⟩ := h2.at_ hr
    exact ⟨e, he, hR⟩
theorem ClkR.one {S : SlP} (e : Clk) (r : List Value) (h : ClkR S e r) : ∀ u ∈ r, u.oneCell' = true := by obtain ⟨A, n, k, rfl, _⟩ := h; simp [Value.oneCell']
theorem DomR.one (e : Dom) (r : List Value) (h : DomR e r) : ∀ u ∈ r, u.oneCell' = true := by cases h; simp [Value.oneCell']
theorem RstR.one (e : Int) (r : List Value) (h : RstR e r) : ∀ u ∈ r, u.oneCell' = true := by cases h; simp [Value.oneCell']
theorem DevR.one {S : SlP} (e : Dev) (r : List Value) (h : DevR S e r) : ∀ u ∈ r, u.oneCell' = true := by obtain ⟨A, n, k, A', n', k', rfl, _⟩ := h; simp [Value.oneCell']

theorem full_any (s : Soc) (A1 A2 A3 A4 : Option Addr) (n1 k1 n2 k2 n3 k3 n4 k4 : Nat) (w : World) (hW : SocW w s A1 n1 A2 n2 A3 n3 A4 n4) :
    Calls Try.prog 67 #[.agg #[.slice A1 n1 k1, .slice A2 n2 k2, .slice A3 n3 k3, .slice A4 n4 k4]] w (Rt (.int .i64 (fullE s)) w) := by
  have hn1 := hW.len1
  have hn2 := hW.len2
  have hn3 := hW.len3
  have hn4 := hW.len4
  have hsm := hW.small
  unfold Soc.small at hsm
  obtain ⟨hs1, hs2, hs3, hs4, hs5, hs6⟩ := hsm
  obtain ⟨rows, hr1, hr2, hr3, hr4, hr5, hr6⟩ := hW.dev.rows DevR.one
  refine XK.enter (vs := [.agg #[.slice A1 n1 k1, .slice A2 n2 k2, .slice A3 n3 k3, .slice A4 n4 k4]]) Try.func67 rfl Try.ntmps67 (by simp) ?_
  refine XK.seq ?_

  refine XK.region ?_
  refine xk_box rfl (by decide) fun g1 => ?_
  refine xk_assign rfl (by decide) ?_
  refine XK.nil ?_
  (repeat (first | refine XK.thenN ?_ | refine XK.thenE ?_ | refine XK.thenR ?_ | refine XK.inN ?_ | refine XK.inE ?_ | refine XK.inR ?_ | refine XK.inF rfl ?_))
  refine XK.seq ?_
  refine XK.seq ?_

  refine XK.region ?_
  refine xk_field (off := 0) (by kernel_rfl) rfl (by decide) ?_
  refine xk_load (by kernel_rfl) rfl (by first | assumption | exact Rd.blk 0 rfl rfl | exact Rd.blk 1 rfl rfl | exact Rd.blk 2 rfl rfl | exact Rd.blk 3 rfl rfl | exact Rd.blk 4 rfl rfl | exact Rd.blk 5 rfl rfl | exact Rd.blk 6 rfl rfl | exact Rd.blk 7 rfl rfl | exact Rd.blk 8 rfl rfl | exact Rd.roc (by simp) (by assumption) | (apply Rd.rocN (by simp); assumption; rfl)) (by decide) ?_
  refine xk_len (el := 65) (by kernel_rfl) rfl (by decide) ?_
  refine xk_gtr rfl rfl (by decide) ?_
  refine xk_move rfl (by decide) ?_
  refine xk_split (t := 7) rfl (fun hg => ?_) (fun hg => ?_)
  ·
    refine xk_guardF rfl rfl rfl (by decide) ?_
    refine xk_guardF rfl rfl rfl (by decide) ?_
    refine xk_guardF rfl rfl rfl (by decide) ?_
    refine xk_guardF rfl rfl rfl (by decide) ?_
    (first | refine xk_pickT rfl rfl (by decide) ?_ | refine xk_pickF rfl rfl (by decide) ?_)
    refine xk_move rfl (by decide) ?_
    refine xk_guardF rfl rfl rfl (by decide) ?_
    refine xk_guardF rfl rfl rfl (by decide) ?_
    refine xk_guardF rfl rfl rfl (by decide) ?_
    refine xk_guardF rfl rfl rfl (by decide) ?_
    (first | refine xk_pickT rfl rfl (by decide) ?_ | refine xk_pickF rfl rfl (by decide) ?_)
    refine xk_move rfl (by decide) ?_
    refine xk_guardF rfl rfl rfl (by decide) ?_
    refine xk_guardF rfl rfl rfl (by decide) ?_
    refine xk_guardF rfl rfl rfl (by decide) ?_
    refine xk_guardF rfl rfl rfl (by decide) ?_
    (first | refine xk_pickT rfl rfl (by decide) ?_ | refine xk_pickF rfl rfl (by decide) ?_)
    refine XK.nil ?_
    (repeat (first | refine XK.thenN ?_ | refine XK.thenE ?_ | refine XK.thenR ?_ | refine XK.inN ?_ | refine XK.inE ?_ | refine XK.inR ?_ | refine XK.inF rfl ?_))
    refine XK.cond rfl (fun _ => ?_) (fun h => by cases h)
    refine XK.seq ?_

    refine XK.region ?_
    refine xk_assign rfl (by decide) ?_
    refine XK.nil ?_
    (repeat (first | refine XK.thenN ?_ | refine XK.thenE ?_ | refine XK.thenR ?_ | refine XK.inN ?_ | refine XK.inE ?_ | refine XK.inR ?_ | refine XK.inF rfl ?_))
    refine XK.ret ?_
    (repeat (first | refine XK.thenN ?_ | refine XK.thenE ?_ | refine XK.thenR ?_ | refine XK.inN ?_ | refine XK.inE ?_ | refine XK.inR ?_ | refine XK.inF rfl ?_))
    exact XK.ret1 rfl rfl fun w1 st => ⟨by rw [fullE, if_pos (by omega)], st.below (by simp)⟩
  ·
    refine xk_guardT rfl rfl ?_; refine xk_field (off := 1) (by kernel_rfl) rfl (by decide) ?_
    refine xk_guardT rfl rfl ?_; refine xk_load (by kernel_rfl) rfl (by first | assumption | exact Rd.blk 0 rfl rfl | exact Rd.blk 1 rfl rfl | exact Rd.blk 2 rfl rfl | exact Rd.blk 3 rfl rfl | exact Rd.blk 4 rfl rfl | exact Rd.blk 5 rfl rfl | exact Rd.blk 6 rfl rfl | exact Rd.blk 7 rfl rfl | exact Rd.blk 8 rfl rfl | exact Rd.roc (by simp) (by assumption) | (apply Rd.rocN (by simp); assumption; rfl)) (by decide) ?_
    refine xk_guardT rfl rfl ?_; refine xk_len (el := 61) (by kernel_rfl) rfl (by decide) ?_
    refine xk_guardT rfl rfl ?_; refine xk_gtr rfl rfl (by decide) ?_
    (first | refine xk_pickT rfl rfl (by decide) ?_ | refine xk_pickF rfl rfl (by decide) ?_)
    refine xk_move rfl (by decide) ?_
    refine xk_split (t := 13) rfl (fun hg => ?_) (fun hg => ?_)
    ·
      refine xk_guardF rfl rfl rfl (by decide) ?_
      refine xk_guardF rfl rfl rfl (by decide) ?_
      refine xk_guardF rfl rfl rfl (by decide) ?_
      refine xk_guardF rfl rfl rfl (by decide) ?_
      (first | refine xk_pickT rfl rfl (by decide) ?_ | refine xk_pickF rfl rfl (by decide) ?_)
      refine xk_move rfl (by decide) ?_
      refine xk_guardF rfl rfl rfl (by decide) ?_
      refine xk_guardF rfl rfl rfl (by decide) ?_
      refine xk_guardF rfl rfl rfl (by decide) ?_
      refine xk_guardF rfl rfl rfl (by decide) ?_
      (first | refine xk_pickT rfl rfl (by decide) ?_ | refine xk_pickF rfl rfl (by decide) ?_)
      refine XK.nil ?_
      (repeat (first | refine XK.thenN ?_ | refine XK.thenE ?_ | refine XK.thenR ?_ | refine XK.inN ?_ | refine XK.inE ?_ | refine XK.inR ?_ | refine XK.inF rfl ?_))
      refine XK.cond rfl (fun _ => ?_) (fun h => by cases h)
      refine XK.seq ?_

      refine XK.region ?_
      refine xk_assign rfl (by decide) ?_
      refine XK.nil ?_
      (repeat (first | refine XK.thenN ?_ | refine XK.thenE ?_ | refine XK.thenR ?_ | refine XK.inN ?_ | refine XK.inE ?_ | refine XK.inR ?_ | refine XK.inF rfl ?_))
      refine XK.ret ?_
      (repeat (first | refine XK.thenN ?_ | refine XK.thenE ?_ | refine XK.thenR ?_ | refine XK.inN ?_ | refine XK.inE ?_ | refine XK.inR ?_ | refine XK.inF rfl ?_))
      exact XK.ret1 rfl rfl fun w1 st => ⟨by rw [fullE, if_pos (by omega)], st.below (by simp)⟩
    ·
      refine xk_guardT rfl rfl ?_; refine xk_field (off := 2) (by kernel_rfl) rfl (by decide) ?_
      refine xk_guardT rfl rfl ?_; refine xk_load (by kernel_rfl) rfl (by first | assumption | exact Rd.blk 0 rfl rfl | exact Rd.blk 1 rfl rfl | exact Rd.blk 2 rfl rfl | exact Rd.blk 3 rfl rfl | exact Rd.blk 4 rfl rfl | exact Rd.blk 5 rfl rfl | exact Rd.blk 6 rfl rfl | exact Rd.blk 7 rfl rfl | exact Rd.blk 8 rfl rfl | exact Rd.roc (by simp) (by assumption) | (apply Rd.rocN (by simp); assumption; rfl)) (by decide) ?_
      refine xk_guardT rfl rfl ?_; refine xk_len (el := 102) (by kernel_rfl) rfl (by decide) ?_
      refine xk_guardT rfl rfl ?_; refine xk_gtr rfl rfl (by decide) ?_
      (first | refine xk_pickT rfl rfl (by decide) ?_ | refine xk_pickF rfl rfl (by decide) ?_)
      refine xk_move rfl (by decide) ?_
      refine xk_split (t := 19) rfl (fun hg => ?_) (fun hg => ?_)
      ·
        refine xk_guardF rfl rfl rfl (by decide) ?_
        refine xk_guardF rfl rfl rfl (by decide) ?_
        refine xk_guardF rfl rfl rfl (by decide) ?_
        refine xk_guardF rfl rfl rfl (by decide) ?_
        (first | refine xk_pickT rfl rfl (by decide) ?_ | refine xk_pickF rfl rfl (by decide) ?_)
        refine XK.nil ?_
        (repeat (first | refine XK.thenN ?_ | refine XK.thenE ?_ | refine XK.thenR ?_ | refine XK.inN ?_ | refine XK.inE ?_ | refine XK.inR ?_ | refine XK.inF rfl ?_))
        refine XK.cond rfl (fun _ => ?_) (fun h => by cases h)
        refine XK.seq ?_

        refine XK.region ?_
        refine xk_assign rfl (by decide) ?_
        refine XK.nil ?_
        (repeat (first | refine XK.thenN ?_ | refine XK.thenE ?_ | refine XK.thenR ?_ | refine XK.inN ?_ | refine XK.inE ?_ | refine XK.inR ?_ | refine XK.inF rfl ?_))
        refine XK.ret ?_
        (repeat (first | refine XK.thenN ?_ | refine XK.thenE ?_ | refine XK.thenR ?_ | refine XK.inN ?_ | refine XK.inE ?_ | refine XK.inR ?_ | refine XK.inF rfl ?_))
        exact XK.ret1 rfl rfl fun w1 st => ⟨by rw [fullE, if_pos (by omega)], st.below (by simp)⟩
      ·
        refine xk_guardT rfl rfl ?_; refine xk_field (off := 3) (by kernel_rfl) rfl (by decide) ?_
        refine xk_guardT rfl rfl ?_; refine xk_load (by kernel_rfl) rfl (by first | assumption | exact Rd.blk 0 rfl rfl | exact Rd.blk 1 rfl rfl | exact Rd.blk 2 rfl rfl | exact Rd.blk 3 rfl rfl | exact Rd.blk 4 rfl rfl | exact Rd.blk 5 rfl rfl | exact Rd.blk 6 rfl rfl | exact Rd.blk 7 rfl rfl | exact Rd.blk 8 rfl rfl | exact Rd.roc (by simp) (by assumption) | (apply Rd.rocN (by simp); assumption; rfl)) (by decide) ?_
        refine xk_guardT rfl rfl ?_; refine xk_len (el := 83) (by kernel_rfl) rfl (by decide) ?_
        refine xk_guardT rfl rfl ?_; refine xk_gtr rfl rfl (by decide) ?_
        (first | refine xk_pickT rfl rfl (by decide) ?_ | refine xk_pickF rfl rfl (by decide) ?_)
        refine XK.nil ?_
        (repeat (first | refine XK.thenN ?_ | refine XK.thenE ?_ | refine XK.thenR ?_ | refine XK.inN ?_ | refine XK.inE ?_ | refine XK.inR ?_ | refine XK.inF rfl ?_))
        refine XK.if_ rfl (fun h => ?_) (fun h => ?_)
        ·
          refine XK.seq ?_

          refine XK.region ?_
          refine xk_assign rfl (by decide) ?_
          refine XK.nil ?_
          (repeat (first | refine XK.thenN ?_ | refine XK.thenE ?_ | refine XK.thenR ?_ | refine XK.inN ?_ | refine XK.inE ?_ | refine XK.inR ?_ | refine XK.inF rfl ?_))
          refine XK.ret ?_
          (repeat (first | refine XK.thenN ?_ | refine XK.thenE ?_ | refine XK.thenR ?_ | refine XK.inN ?_ | refine XK.inE ?_ | refine XK.inR ?_ | refine XK.inF rfl ?_))
          exact XK.ret1 rfl rfl fun w1 st => ⟨by rw [fullE, if_pos (by omega)], st.below (by simp)⟩
        ·
          refine XK.skip ?_
          (repeat (first | refine XK.thenN ?_ | refine XK.thenE ?_ | refine XK.thenR ?_ | refine XK.inN ?_ | refine XK.inE ?_ | refine XK.inR ?_ | refine XK.inF rfl ?_))
          refine XK.seq ?_

          refine XK.region ?_
          refine xk_field (off := 3) (by kernel_rfl) rfl (by decide) ?_
          refine xk_load (by kernel_rfl) rfl (by first | assumption | exact Rd.blk 0 rfl rfl | exact Rd.blk 1 rfl rfl | exact Rd.blk 2 rfl rfl | exact Rd.blk 3 rfl rfl | exact Rd.blk 4 rfl rfl | exact Rd.blk 5 rfl rfl | exact Rd.blk 6 rfl rfl | exact Rd.blk 7 rfl rfl | exact Rd.blk 8 rfl rfl | exact Rd.roc (by simp) (by assumption) | (apply Rd.rocN (by simp); assumption; rfl)) (by decide) ?_
          refine xk_callR (f := 83) (fi := []) (ca := []) (by kernel_rfl) rfl rfl (by decide) (fun w1 st => each_dev A4 n4 k4 112 [] rows (s.devs.map manyE) w1 (hr1.le (all_le (st.started (by simp)))) hr2 hr3 hr4 (by simp; omega) (by omega) (by kernel_rfl) (fun i r x hr hx w2 hb2 => by
    have hbb := (st.started (by simp)).trans (hb2.mono st.size)
    obtain ⟨e, he, hR⟩ := hr6 i r hr
    rw [List.getElem?_map, he] at hx
    cases hx
    obtain ⟨Ar, nr, kr, Af, nf, kf, rfl, hnr, hnf, _, hsf⟩ := hR
    exact full_1 e.regs e.needs _ _ _ _ _ _ _ _ _ _ w2 hnr hnf)) ?_
          refine xk_assign rfl (by decide) ?_
          refine XK.nil ?_
          (repeat (first | refine XK.thenN ?_ | refine XK.thenE ?_ | refine XK.thenR ?_ | refine XK.inN ?_ | refine XK.inE ?_ | refine XK.inR ?_ | refine XK.inF rfl ?_))
          refine XK.ret ?_
          (repeat (first | refine XK.thenN ?_ | refine XK.thenE ?_ | refine XK.thenR ?_ | refine XK.inN ?_ | refine XK.inE ?_ | refine XK.inR ?_ | refine XK.inF rfl ?_))
          exact XK.ret1 rfl rfl fun w1 st => ⟨by rw [fullE, if_neg (by omega)], st.below (by simp)⟩

theorem check_1 (s : Soc) (A1 A2 A3 A4 : Option Addr) (n1 k1 n2 k2 n3 k3 n4 k4 : Nat) (w : World) (hW : SocW w s A1 n1 A2 n2 A3 n3 A4 n4) (gs : Nat) (hs : ROn w gs 0 [.slice A1 n1 k1, .slice A2 n2 k2, .slice A3 n3 k3, .slice A4 n4 k4]) :
    Calls Try.prog 66 #[.pointer (some ⟨gs, 0, none⟩)] w (Rt (.int .i64 (fullE s)) w) := by
  have hn1 := hW.len1
  have hn2 := hW.len2
  have hn3 := hW.len3
  have hn4 := hW.len4
  have hsm := hW.small
  unfold Soc.small at hsm
  obtain ⟨hs1, hs2, hs3, hs4, hs5, hs6⟩ := hsm
  refine XK.enter (vs := [.pointer (some ⟨gs, 0, none⟩)]) Try.func66 rfl Try.ntmps66 (by simp) ?_
  refine XK.seq ?_

  refine XK.region ?_
  refine xk_assign rfl (by decide) ?_
  refine XK.nil ?_
  (repeat (first | refine XK.thenN ?_ | refine XK.thenE ?_ | refine XK.thenR ?_ | refine XK.inN ?_ | refine XK.inE ?_ | refine XK.inR ?_ | refine XK.inF rfl ?_))
  refine XK.seq ?_

  refine XK.region ?_
  refine xk_loadN 4 (by kernel_rfl) rfl (by first | assumption | exact RdN.whole 0 rfl | exact RdN.whole 1 rfl | exact RdN.whole 2 rfl | exact RdN.whole 3 rfl | exact RdN.whole 4 rfl | exact RdN.whole 5 rfl | exact RdN.whole 6 rfl | exact RdN.whole 7 rfl | exact RdN.whole 8 rfl | exact RdN.roc (by simp) (by assumption)) rfl (by decide) ?_
  refine xk_callR (f := 67) (fi := []) (ca := []) (by kernel_rfl) rfl rfl (by decide) (fun w1 st => full_any s A1 A2 A3 A4 n1 k1 n2 k2 n3 k3 n4 k4 w1 (hW.le (st.started (by simp)))) ?_
  refine xk_assign rfl (by decide) ?_
  refine XK.nil ?_
  (repeat (first | refine XK.thenN ?_ | refine XK.thenE ?_ | refine XK.thenR ?_ | refine XK.inN ?_ | refine XK.inE ?_ | refine XK.inR ?_ | refine XK.inF rfl ?_))
  refine XK.ret ?_
  (repeat (first | refine XK.thenN ?_ | refine XK.thenE ?_ | refine XK.thenR ?_ | refine XK.inN ?_ | refine XK.inE ?_ | refine XK.inR ?_ | refine XK.inF rfl ?_))
  exact XK.ret1 rfl rfl fun w1 st => ⟨rfl, st.below (by simp)⟩

theorem check_2_1 (kind rate mul div lock : Int) (A : Option Addr) (n k : Nat) (A1 A2 A3 A4 : Option Addr) (n1 k1 n2 k2 n3 k3 n4 k4 : Nat) (gs : Nat) (w : World) (hs : ROn w gs 0 [.slice A1 n1 k1, .slice A2 n2 k2, .slice A3 n3 k3, .slice A4 n4 k4]) (hz1 : (n1 : Int) ≤ 9223372036854775806) (zs : List Int) (hA : SlS (all w) 1 A n (intCells zs)) (hn : n = zs.length) (hz : (n : Int) ≤ 9223372036854775806) :
    Calls Try.prog 70 #[.agg #[.int .u8 kind, .slice A n k, .int .u64 rate, .int .i64 mul, .int .i64 div, .int .i64 lock], .pointer (some ⟨gs, 0, none⟩)] w (Rt (.int .i64 (clockE n1 ⟨kind, zs, rate, mul, div, lock⟩)) w) := by
  refine XK.enter (vs := [.agg #[.int .u8 kind, .slice A n k, .int .u64 rate, .int .i64 mul, .int .i64 div, .int .i64 lock], .pointer (some ⟨gs, 0, none⟩)]) Try.func70 rfl Try.ntmps70 (by simp) ?_
  refine XK.seq ?_

  refine XK.region ?_
  refine xk_box rfl (by decide) fun g1 => ?_
  refine xk_assign rfl (by decide) ?_
  refine XK.nil ?_
  (repeat (first | refine XK.thenN ?_ | refine XK.thenE ?_ | refine XK.thenR ?_ | refine XK.inN ?_ | refine XK.inE ?_ | refine XK.inR ?_ | refine XK.inF rfl ?_))
  refine XK.seq ?_

  refine XK.region ?_
  refine xk_loadN 4 (by kernel_rfl) rfl (by first | assumption | exact RdN.whole 0 rfl | exact RdN.whole 1 rfl | exact RdN.whole 2 rfl | exact RdN.whole 3 rfl | exact RdN.whole 4 rfl | exact RdN.whole 5 rfl | exact RdN.whole 6 rfl | exact RdN.whole 7 rfl | exact RdN.whole 8 rfl | exact RdN.roc (by simp) (by assumption)) rfl (by decide) ?_
  refine xk_loadN 6 (by kernel_rfl) rfl (by first | assumption | exact RdN.whole 0 rfl | exact RdN.whole 1 rfl | exact RdN.whole 2 rfl | exact RdN.whole 3 rfl | exact RdN.whole 4 rfl | exact RdN.whole 5 rfl | exact RdN.whole 6 rfl | exact RdN.whole 7 rfl | exact RdN.whole 8 rfl | exact RdN.roc (by simp) (by assumption)) rfl (by decide) ?_
  refine xk_callR (f := 71) (fi := []) (ca := []) (by kernel_rfl) rfl rfl (by decide) (fun w1 st => clock_any kind rate mul div lock A n k A1 A2 A3 A4 n1 k1 n2 k2 n3 k3 n4 k4 w1 hz1 zs (hA.le (all_le (st.started (by simp)))) hn hz) ?_
  refine xk_assign rfl (by decide) ?_
  refine XK.nil ?_
  (repeat (first | refine XK.thenN ?_ | refine XK.thenE ?_ | refine XK.thenR ?_ | refine XK.inN ?_ | refine XK.inE ?_ | refine XK.inR ?_ | refine XK.inF rfl ?_))
  refine XK.ret ?_
  (repeat (first | refine XK.thenN ?_ | refine XK.thenE ?_ | refine XK.thenR ?_ | refine XK.inN ?_ | refine XK.inE ?_ | refine XK.inR ?_ | refine XK.inF rfl ?_))
  exact XK.ret1 rfl rfl fun w1 st => ⟨rfl, st.below (by simp)⟩

theorem check_4_1 (above delay : Int) (ret : Bool) (A1 A2 A3 A4 : Option Addr) (n1 k1 n2 k2 n3 k3 n4 k4 : Nat) (gs : Nat) (w : World) (hs : ROn w gs 0 [.slice A1 n1 k1, .slice A2 n2 k2, .slice A3 n3 k3, .slice A4 n4 k4]) (hz2 : (n2 : Int) ≤ 9223372036854775806) :
    Calls Try.prog 76 #[.agg #[.int .i64 above, .int .i64 delay, .bool ret], .pointer (some ⟨gs, 0, none⟩)] w (Rt (.int .i64 (domainE n2 ⟨above, delay, ret⟩)) w) := by
  refine XK.enter (vs := [.agg #[.int .i64 above, .int .i64 delay, .bool ret], .pointer (some ⟨gs, 0, none⟩)]) Try.func76 rfl Try.ntmps76 (by simp) ?_
  refine XK.seq ?_

  refine XK.region ?_
  refine xk_box rfl (by decide) fun g1 => ?_
  refine xk_assign rfl (by decide) ?_
  refine XK.nil ?_
  (repeat (first | refine XK.thenN ?_ | refine XK.thenE ?_ | refine XK.thenR ?_ | refine XK.inN ?_ | refine XK.inE ?_ | refine XK.inR ?_ | refine XK.inF rfl ?_))
  refine XK.seq ?_

  refine XK.region ?_
  refine xk_loadN 4 (by kernel_rfl) rfl (by first | assumption | exact RdN.whole 0 rfl | exact RdN.whole 1 rfl | exact RdN.whole 2 rfl | exact RdN.whole 3 rfl | exact RdN.whole 4 rfl | exact RdN.whole 5 rfl | exact RdN.whole 6 rfl | exact RdN.whole 7 rfl | exact RdN.whole 8 rfl | exact RdN.roc (by simp) (by assumption)) rfl (by decide) ?_
  refine xk_loadN 3 (by kernel_rfl) rfl (by first | assumption | exact RdN.whole 0 rfl | exact RdN.whole 1 rfl | exact RdN.whole 2 rfl | exact RdN.whole 3 rfl | exact RdN.whole 4 rfl | exact RdN.whole 5 rfl | exact RdN.whole 6 rfl | exact RdN.whole 7 rfl | exact RdN.whole 8 rfl | exact RdN.roc (by simp) (by assumption)) rfl (by decide) ?_
  refine xk_callR (f := 77) (fi := []) (ca := []) (by kernel_rfl) rfl rfl (by decide) (fun w1 st => domain_any above delay ret A1 A2 A3 A4 n1 k1 n2 k2 n3 k3 n4 k4 w1 hz2) ?_
  refine xk_assign rfl (by decide) ?_
  refine XK.nil ?_
  (repeat (first | refine XK.thenN ?_ | refine XK.thenE ?_ | refine XK.thenR ?_ | refine XK.inN ?_ | refine XK.inE ?_ | refine XK.inR ?_ | refine XK.inF rfl ?_))
  refine XK.ret ?_
  (repeat (first | refine XK.thenN ?_ | refine XK.thenE ?_ | refine XK.thenR ?_ | refine XK.inN ?_ | refine XK.inE ?_ | refine XK.inR ?_ | refine XK.inF rfl ?_))
  exact XK.ret1 rfl rfl fun w1 st => ⟨rfl, st.below (by simp)⟩

theorem check_7_1 (rg : List Rg) (clock domain reset clamp : Int) (A B : Option Addr) (n k nb kb : Nat) (A1 A2 A3 A4 : Option Addr) (n1 k1 n2 k2 n3 k3 n4 k4 : Nat) (gs : Nat) (w : World) (hs : ROn w gs 0 [.slice A1 n1 k1, .slice A2 n2 k2, .slice A3 n3 k3, .slice A4 n4 k4]) (hz1 : (n1 : Int) ≤ 9223372036854775806) (hz2 : (n2 : Int) ≤ 9223372036854775806) (hz3 : (n3 : Int) ≤ 9223372036854775806) (hz4 : (n4 : Int) ≤ 9223372036854775806) (zs : List Int) (hA : SlS (all w) 1 A n (intCells zs)) (hn : n = zs.length) (hz : (n : Int) ≤ 9223372036854775806) :
    Calls Try.prog 84 #[.agg #[.int .i64 clock, .int .i64 domain, .int .i64 reset, .int .u32 clamp, .slice B nb kb, .slice A n k], .pointer (some ⟨gs, 0, none⟩)] w (Rt (.int .i64 (deviceE n1 n2 n3 n4 ⟨clock, domain, reset, clamp, rg, zs⟩)) w) := by
  refine XK.enter (vs := [.agg #[.int .i64 clock, .int .i64 domain, .int .i64 reset, .int .u32 clamp, .slice B nb kb, .slice A n k], .pointer (some ⟨gs, 0, none⟩)]) Try.func84 rfl Try.ntmps84 (by simp) ?_
  refine XK.seq ?_

  refine XK.region ?_
  refine xk_box rfl (by decide) fun g1 => ?_
  refine xk_assign rfl (by decide) ?_
  refine XK.nil ?_
  (repeat (first | refine XK.thenN ?_ | refine XK.thenE ?_ | refine XK.thenR ?_ | refine XK.inN ?_ | refine XK.inE ?_ | refine XK.inR ?_ | refine XK.inF rfl ?_))
  refine XK.seq ?_

  refine XK.region ?_
  refine xk_loadN 4 (by kernel_rfl) rfl (by first | assumption | exact RdN.whole 0 rfl | exact RdN.whole 1 rfl | exact RdN.whole 2 rfl | exact RdN.whole 3 rfl | exact RdN.whole 4 rfl | exact RdN.whole 5 rfl | exact RdN.whole 6 rfl | exact RdN.whole 7 rfl | exact RdN.whole 8 rfl | exact RdN.roc (by simp) (by assumption)) rfl (by decide) ?_
  refine xk_loadN 6 (by kernel_rfl) rfl (by first | assumption | exact RdN.whole 0 rfl | exact RdN.whole 1 rfl | exact RdN.whole 2 rfl | exact RdN.whole 3 rfl | exact RdN.whole 4 rfl | exact RdN.whole 5 rfl | exact RdN.whole 6 rfl | exact RdN.whole 7 rfl | exact RdN.whole 8 rfl | exact RdN.roc (by simp) (by assumption)) rfl (by decide) ?_
  refine xk_callR (f := 85) (fi := []) (ca := []) (by kernel_rfl) rfl rfl (by decide) (fun w1 st => device_any rg clock domain reset clamp A B n k nb kb A1 A2 A3 A4 n1 k1 n2 k2 n3 k3 n4 k4 w1 hz1 hz2 hz3 hz4 zs (hA.le (all_le (st.started (by simp)))) hn hz) ?_
  refine xk_assign rfl (by decide) ?_
  refine XK.nil ?_
  (repeat (first | refine XK.thenN ?_ | refine XK.thenE ?_ | refine XK.thenR ?_ | refine XK.inN ?_ | refine XK.inE ?_ | refine XK.inR ?_ | refine XK.inF rfl ?_))
  refine XK.ret ?_
  (repeat (first | refine XK.thenN ?_ | refine XK.thenE ?_ | refine XK.thenR ?_ | refine XK.inN ?_ | refine XK.inE ?_ | refine XK.inR ?_ | refine XK.inF rfl ?_))
  exact XK.ret1 rfl rfl fun w1 st => ⟨rfl, st.below (by simp)⟩

theorem check_2 (s : Soc) (A1 A2 A3 A4 : Option Addr) (n1 k1 n2 k2 n3 k3 n4 k4 : Nat) (w : World) (hW : SocW w s A1 n1 A2 n2 A3 n3 A4 n4) (gs : Nat) (hs : ROn w gs 0 [.slice A1 n1 k1, .slice A2 n2 k2, .slice A3 n3 k3, .slice A4 n4 k4]) :
    Calls Try.prog 68 #[.pointer (some ⟨gs, 0, none⟩)] w (Rt (.int .i64 (firstE (s.clocks.map (clockE s.clocks.length)))) w) := by
  have hn1 := hW.len1
  have hn2 := hW.len2
  have hn3 := hW.len3
  have hn4 := hW.len4
  have hsm := hW.small
  unfold Soc.small at hsm
  obtain ⟨hs1, hs2, hs3, hs4, hs5, hs6⟩ := hsm
  obtain ⟨rows, hr1, hr2, hr3, hr4, hr5, hr6⟩ := hW.clk.rows ClkR.one
  rw [← hn1]
  refine XK.enter (vs := [.pointer (some ⟨gs, 0, none⟩)]) Try.func68 rfl Try.ntmps68 (by simp) ?_
  refine XK.seq ?_

  refine XK.region ?_
  refine xk_assign rfl (by decide) ?_
  refine XK.nil ?_
  (repeat (first | refine XK.thenN ?_ | refine XK.thenE ?_ | refine XK.thenR ?_ | refine XK.inN ?_ | refine XK.inE ?_ | refine XK.inR ?_ | refine XK.inF rfl ?_))
  refine XK.seq ?_

  refine XK.region ?_
  refine xk_field (off := 0) (by kernel_rfl) rfl (by decide) ?_
  refine xk_load (by kernel_rfl) rfl (by first | assumption | exact Rd.blk 0 rfl rfl | exact Rd.blk 1 rfl rfl | exact Rd.blk 2 rfl rfl | exact Rd.blk 3 rfl rfl | exact Rd.blk 4 rfl rfl | exact Rd.blk 5 rfl rfl | exact Rd.blk 6 rfl rfl | exact Rd.blk 7 rfl rfl | exact Rd.blk 8 rfl rfl | exact Rd.roc (by simp) (by assumption) | (apply Rd.rocN (by simp); assumption; rfl)) (by decide) ?_
  refine xk_func (vf := []) (vc := [.pointer (some ⟨gs, 0, none⟩)]) rfl rfl (by decide) ?_
  refine xk_callR (f := 69) (fi := []) (ca := []) (by kernel_rfl) rfl rfl (by decide) (fun w1 st => each_clk A1 n1 k1 70 [.pointer (some ⟨gs, 0, none⟩)] rows (s.clocks.map (clockE n1)) w1 (hr1.le (all_le (st.started (by simp)))) hr2 hr3 hr4 (by simp; omega) (by omega) (by kernel_rfl) (fun i r x hr hx w2 hb2 => by
    have hbb := (st.started (by simp)).trans (hb2.mono st.size)
    obtain ⟨e, he, hR⟩ := hr6 i r hr
    rw [List.getElem?_map, he] at hx
    cases hx
    obtain ⟨Af, nf, kf, rfl, hnf, hsf⟩ := hR
    exact check_2_1 _ _ _ _ _ _ _ _ A1 A2 A3 A4 n1 k1 n2 k2 n3 k3 n4 k4 gs w2 (hs.below hbb) (by omega) e.src (SlS.le hsf (all_le hbb)) hnf (by have := hs5 e (List.mem_of_getElem? he); omega))) ?_
  refine xk_assign rfl (by decide) ?_
  refine XK.nil ?_
  (repeat (first | refine XK.thenN ?_ | refine XK.thenE ?_ | refine XK.thenR ?_ | refine XK.inN ?_ | refine XK.inE ?_ | refine XK.inR ?_ | refine XK.inF rfl ?_))
  refine XK.ret ?_
  (repeat (first | refine XK.thenN ?_ | refine XK.thenE ?_ | refine XK.thenR ?_ | refine XK.inN ?_ | refine XK.inE ?_ | refine XK.inR ?_ | refine XK.inF rfl ?_))
  exact XK.ret1 rfl rfl fun w1 st => ⟨rfl, st.below (by simp)⟩

theorem check_4 (s : Soc) (A1 A2 A3 A4 : Option Addr) (n1 k1 n2 k2 n3 k3 n4 k4 : Nat) (w : World) (hW : SocW w s A1 n1 A2 n2 A3 n3 A4 n4) (gs : Nat) (hs : ROn w gs 0 [.slice A1 n1 k1, .slice A2 n2 k2, .slice A3 n3 k3, .slice A4 n4 k4]) :
    Calls Try.prog 74 #[.pointer (some ⟨gs, 0, none⟩)] w (Rt (.int .i64 (firstE (s.domains.map (domainE s.domains.length)))) w) := by
  have hn1 := hW.len1
  have hn2 := hW.len2
  have hn3 := hW.len3
  have hn4 := hW.len4
  have hsm := hW.small
  unfold Soc.small at hsm
  obtain ⟨hs1, hs2, hs3, hs4, hs5, hs6⟩ := hsm
  obtain ⟨rows, hr1, hr2, hr3, hr4, hr5, hr6⟩ := hW.dom.rows DomR.one
  rw [← hn2]
  refine XK.enter (vs := [.pointer (some ⟨gs, 0, none⟩)]) Try.func74 rfl Try.ntmps74 (by simp) ?_
  refine XK.seq ?_

  refine XK.region ?_
  refine xk_assign rfl (by decide) ?_
  refine XK.nil ?_
  (repeat (first | refine XK.thenN ?_ | refine XK.thenE ?_ | refine XK.thenR ?_ | refine XK.inN ?_ | refine XK.inE ?_ | refine XK.inR ?_ | refine XK.inF rfl ?_))
  refine XK.seq ?_

  refine XK.region ?_
  refine xk_field (off := 1) (by kernel_rfl) rfl (by decide) ?_
  refine xk_load (by kernel_rfl) rfl (by first | assumption | exact Rd.blk 0 rfl rfl | exact Rd.blk 1 rfl rfl | exact Rd.blk 2 rfl rfl | exact Rd.blk 3 rfl rfl | exact Rd.blk 4 rfl rfl | exact Rd.blk 5 rfl rfl | exact Rd.blk 6 rfl rfl | exact Rd.blk 7 rfl rfl | exact Rd.blk 8 rfl rfl | exact Rd.roc (by simp) (by assumption) | (apply Rd.rocN (by simp); assumption; rfl)) (by decide) ?_
  refine xk_func (vf := []) (vc := [.pointer (some ⟨gs, 0, none⟩)]) rfl rfl (by decide) ?_
  refine xk_callR (f := 75) (fi := []) (ca := []) (by kernel_rfl) rfl rfl (by decide) (fun w1 st => each_dom A2 n2 k2 76 [.pointer (some ⟨gs, 0, none⟩)] rows (s.domains.map (domainE n2)) w1 (hr1.le (all_le (st.started (by simp)))) hr2 hr3 hr4 (by simp; omega) (by omega) (by kernel_rfl) (fun i r x hr hx w2 hb2 => by
    have hbb := (st.started (by simp)).trans (hb2.mono st.size)
    obtain ⟨e, he, hR⟩ := hr6 i r hr
    rw [List.getElem?_map, he] at hx
    cases hx
    obtain rfl := hR
    exact check_4_1 _ _ _ A1 A2 A3 A4 n1 k1 n2 k2 n3 k3 n4 k4 gs w2 (hs.below hbb) (by omega))) ?_
  refine xk_assign rfl (by decide) ?_
  refine XK.nil ?_
  (repeat (first | refine XK.thenN ?_ | refine XK.thenE ?_ | refine XK.thenR ?_ | refine XK.inN ?_ | refine XK.inE ?_ | refine XK.inR ?_ | refine XK.inF rfl ?_))
  refine XK.ret ?_
  (repeat (first | refine XK.thenN ?_ | refine XK.thenE ?_ | refine XK.thenR ?_ | refine XK.inN ?_ | refine XK.inE ?_ | refine XK.inR ?_ | refine XK.inF rfl ?_))
  exact XK.ret1 rfl rfl fun w1 st => ⟨rfl, st.below (by simp)⟩

theorem check_6 (s : Soc) (A1 A2 A3 A4 : Option Addr) (n1 k1 n2 k2 n3 k3 n4 k4 : Nat) (w : World) (hW : SocW w s A1 n1 A2 n2 A3 n3 A4 n4) (gs : Nat) (hs : ROn w gs 0 [.slice A1 n1 k1, .slice A2 n2 k2, .slice A3 n3 k3, .slice A4 n4 k4]) :
    Calls Try.prog 79 #[.pointer (some ⟨gs, 0, none⟩)] w (Rt (.int .i64 (firstE (s.resets.map resetE))) w) := by
  have hn1 := hW.len1
  have hn2 := hW.len2
  have hn3 := hW.len3
  have hn4 := hW.len4
  have hsm := hW.small
  unfold Soc.small at hsm
  obtain ⟨hs1, hs2, hs3, hs4, hs5, hs6⟩ := hsm
  obtain ⟨rows, hr1, hr2, hr3, hr4, hr5, hr6⟩ := hW.rst.rows RstR.one
  refine XK.enter (vs := [.pointer (some ⟨gs, 0, none⟩)]) Try.func79 rfl Try.ntmps79 (by simp) ?_
  refine XK.seq ?_

  refine XK.region ?_
  refine xk_assign rfl (by decide) ?_
  refine XK.nil ?_
  (repeat (first | refine XK.thenN ?_ | refine XK.thenE ?_ | refine XK.thenR ?_ | refine XK.inN ?_ | refine XK.inE ?_ | refine XK.inR ?_ | refine XK.inF rfl ?_))
  refine XK.seq ?_

  refine XK.region ?_
  refine xk_field (off := 2) (by kernel_rfl) rfl (by decide) ?_
  refine xk_load (by kernel_rfl) rfl (by first | assumption | exact Rd.blk 0 rfl rfl | exact Rd.blk 1 rfl rfl | exact Rd.blk 2 rfl rfl | exact Rd.blk 3 rfl rfl | exact Rd.blk 4 rfl rfl | exact Rd.blk 5 rfl rfl | exact Rd.blk 6 rfl rfl | exact Rd.blk 7 rfl rfl | exact Rd.blk 8 rfl rfl | exact Rd.roc (by simp) (by assumption) | (apply Rd.rocN (by simp); assumption; rfl)) (by decide) ?_
  refine xk_callR (f := 80) (fi := []) (ca := []) (by kernel_rfl) rfl rfl (by decide) (fun w1 st => each_rst A3 n3 k3 81 [] rows (s.resets.map resetE) w1 (hr1.le (all_le (st.started (by simp)))) hr2 hr3 hr4 (by simp; omega) (by omega) (by kernel_rfl) (fun i r x hr hx w2 hb2 => by
    have hbb := (st.started (by simp)).trans (hb2.mono st.size)
    obtain ⟨e, he, hR⟩ := hr6 i r hr
    rw [List.getElem?_map, he] at hx
    cases hx
    obtain rfl := hR
    exact reset_any _ w2)) ?_
  refine xk_assign rfl (by decide) ?_
  refine XK.nil ?_
  (repeat (first | refine XK.thenN ?_ | refine XK.thenE ?_ | refine XK.thenR ?_ | refine XK.inN ?_ | refine XK.inE ?_ | refine XK.inR ?_ | refine XK.inF rfl ?_))
  refine XK.ret ?_
  (repeat (first | refine XK.thenN ?_ | refine XK.thenE ?_ | refine XK.thenR ?_ | refine XK.inN ?_ | refine XK.inE ?_ | refine XK.inR ?_ | refine XK.inF rfl ?_))
  exact XK.ret1 rfl rfl fun w1 st => ⟨rfl, st.below (by simp)⟩

theorem check_7 (s : Soc) (A1 A2 A3 A4 : Option Addr) (n1 k1 n2 k2 n3 k3 n4 k4 : Nat) (w : World) (hW : SocW w s A1 n1 A2 n2 A3 n3 A4 n4) (gs : Nat) (hs : ROn w gs 0 [.slice A1 n1 k1, .slice A2 n2 k2, .slice A3 n3 k3, .slice A4 n4 k4]) :
    Calls Try.prog 82 #[.pointer (some ⟨gs, 0, none⟩)] w (Rt (.int .i64 (firstE (s.devs.map (deviceE s.clocks.length s.domains.length s.resets.length s.devs.length)))) w) := by
  have hn1 := hW.len1
  have hn2 := hW.len2
  have hn3 := hW.len3
  have hn4 := hW.len4
  have hsm := hW.small
  unfold Soc.small at hsm
  obtain ⟨hs1, hs2, hs3, hs4, hs5, hs6⟩ := hsm
  obtain ⟨rows, hr1, hr2, hr3, hr4, hr5, hr6⟩ := hW.dev.rows DevR.one
  rw [← hn1, ← hn2, ← hn3, ← hn4]
  refine XK.enter (vs := [.pointer (some ⟨gs, 0, none⟩)]) Try.func82 rfl Try.ntmps82 (by simp) ?_
  refine XK.seq ?_

  refine XK.region ?_
  refine xk_assign rfl (by decide) ?_
  refine XK.nil ?_
  (repeat (first | refine XK.thenN ?_ | refine XK.thenE ?_ | refine XK.thenR ?_ | refine XK.inN ?_ | refine XK.inE ?_ | refine XK.inR ?_ | refine XK.inF rfl ?_))
  refine XK.seq ?_

  refine XK.region ?_
  refine xk_field (off := 3) (by kernel_rfl) rfl (by decide) ?_
  refine xk_load (by kernel_rfl) rfl (by first | assumption | exact Rd.blk 0 rfl rfl | exact Rd.blk 1 rfl rfl | exact Rd.blk 2 rfl rfl | exact Rd.blk 3 rfl rfl | exact Rd.blk 4 rfl rfl | exact Rd.blk 5 rfl rfl | exact Rd.blk 6 rfl rfl | exact Rd.blk 7 rfl rfl | exact Rd.blk 8 rfl rfl | exact Rd.roc (by simp) (by assumption) | (apply Rd.rocN (by simp); assumption; rfl)) (by decide) ?_
  refine xk_func (vf := []) (vc := [.pointer (some ⟨gs, 0, none⟩)]) rfl rfl (by decide) ?_
  refine xk_callR (f := 83) (fi := []) (ca := []) (by kernel_rfl) rfl rfl (by decide) (fun w1 st => each_dev A4 n4 k4 84 [.pointer (some ⟨gs, 0, none⟩)] rows (s.devs.map (deviceE n1 n2 n3 n4)) w1 (hr1.le (all_le (st.started (by simp)))) hr2 hr3 hr4 (by simp; omega) (by omega) (by kernel_rfl) (fun i r x hr hx w2 hb2 => by
    have hbb := (st.started (by simp)).trans (hb2.mono st.size)
    obtain ⟨e, he, hR⟩ := hr6 i r hr
    rw [List.getElem?_map, he] at hx
    cases hx
    obtain ⟨Ar, nr, kr, Af, nf, kf, rfl, hnr, hnf, _, hsf⟩ := hR
    exact check_7_1 e.regs _ _ _ _ _ _ _ _ _ _ A1 A2 A3 A4 n1 k1 n2 k2 n3 k3 n4 k4 gs w2 (hs.below hbb) (by omega) (by omega) (by omega) (by omega) e.needs (SlS.le hsf (all_le hbb)) hnf (by have := hs6 e (List.mem_of_getElem? he); omega))) ?_
  refine xk_assign rfl (by decide) ?_
  refine XK.nil ?_
  (repeat (first | refine XK.thenN ?_ | refine XK.thenE ?_ | refine XK.thenR ?_ | refine XK.inN ?_ | refine XK.inE ?_ | refine XK.inR ?_ | refine XK.inF rfl ?_))
  refine XK.ret ?_
  (repeat (first | refine XK.thenN ?_ | refine XK.thenE ?_ | refine XK.thenR ?_ | refine XK.inN ?_ | refine XK.inE ?_ | refine XK.inR ?_ | refine XK.inF rfl ?_))
  exact XK.ret1 rfl rfl fun w1 st => ⟨rfl, st.below (by simp)⟩

theorem check_3 (s : Soc) (A1 A2 A3 A4 : Option Addr) (n1 k1 n2 k2 n3 k3 n4 k4 : Nat) (w : World) (hW : SocW w s A1 n1 A2 n2 A3 n3 A4 n4) (gs : Nat) (hs : ROn w gs 0 [.slice A1 n1 k1, .slice A2 n2 k2, .slice A3 n3 k3, .slice A4 n4 k4]) :
    Calls Try.prog 72 #[.pointer (some ⟨gs, 0, none⟩)] w (Rt (.int .i64 (cycE (clocksG s))) w) := by
  have hn1 := hW.len1
  have hn2 := hW.len2
  have hn3 := hW.len3
  have hn4 := hW.len4
  have hsm := hW.small
  unfold Soc.small at hsm
  obtain ⟨hs1, hs2, hs3, hs4, hs5, hs6⟩ := hsm
  refine XK.enter (vs := [.pointer (some ⟨gs, 0, none⟩)]) Try.func72 rfl Try.ntmps72 (by simp) ?_
  refine XK.seq ?_

  refine XK.region ?_
  refine xk_assign rfl (by decide) ?_
  refine XK.nil ?_
  (repeat (first | refine XK.thenN ?_ | refine XK.thenE ?_ | refine XK.thenR ?_ | refine XK.inN ?_ | refine XK.inE ?_ | refine XK.inR ?_ | refine XK.inF rfl ?_))
  refine XK.seq ?_

  refine XK.region ?_
  refine xk_loadN 4 (by kernel_rfl) rfl (by first | assumption | exact RdN.whole 0 rfl | exact RdN.whole 1 rfl | exact RdN.whole 2 rfl | exact RdN.whole 3 rfl | exact RdN.whole 4 rfl | exact RdN.whole 5 rfl | exact RdN.whole 6 rfl | exact RdN.whole 7 rfl | exact RdN.whole 8 rfl | exact RdN.roc (by simp) (by assumption)) rfl (by decide) ?_
  refine xk_call [] (f := 46) (fi := []) (ca := []) (by kernel_rfl) rfl rfl (by decide) (by simp) (GrOk (clocksG s)) (fun w1 st => clocks_any s A1 A2 A3 A4 n1 k1 n2 k2 n3 k3 n4 k4 w1 (hW.le (st.started (by simp)))) ?_
  rintro _ w1 q ⟨Ag, cg, rfl, hgr⟩ hf' _ hfr'
  have hgq := hgr.le hf'
  have hgl : (clocksG s).length = n1 := by simp [clocksG]; omega
  refine xk_callR (f := 73) (fi := []) (ca := []) (by kernel_rfl) rfl rfl (by decide) (fun w1 st => cycle_any Ag _ cg (clocksG s) w1 (hgq.le (st.le (by simp))) rfl (by omega) (fun l hl => by
    simp only [clocksG, List.mem_map] at hl
    obtain ⟨x, hx, rfl⟩ := hl
    have := hs5 x hx; omega)) ?_
  refine xk_assign rfl (by decide) ?_
  refine XK.nil ?_
  (repeat (first | refine XK.thenN ?_ | refine XK.thenE ?_ | refine XK.thenR ?_ | refine XK.inN ?_ | refine XK.inE ?_ | refine XK.inR ?_ | refine XK.inF rfl ?_))
  refine XK.ret ?_
  (repeat (first | refine XK.thenN ?_ | refine XK.thenE ?_ | refine XK.thenR ?_ | refine XK.inN ?_ | refine XK.inE ?_ | refine XK.inR ?_ | refine XK.inF rfl ?_))
  exact XK.ret1 rfl rfl fun w1 st => ⟨rfl, st.below (by simp)⟩

theorem check_5 (s : Soc) (A1 A2 A3 A4 : Option Addr) (n1 k1 n2 k2 n3 k3 n4 k4 : Nat) (w : World) (hW : SocW w s A1 n1 A2 n2 A3 n3 A4 n4) (gs : Nat) (hs : ROn w gs 0 [.slice A1 n1 k1, .slice A2 n2 k2, .slice A3 n3 k3, .slice A4 n4 k4]) :
    Calls Try.prog 78 #[.pointer (some ⟨gs, 0, none⟩)] w (Rt (.int .i64 (cycE (domsG s))) w) := by
  have hn1 := hW.len1
  have hn2 := hW.len2
  have hn3 := hW.len3
  have hn4 := hW.len4
  have hsm := hW.small
  unfold Soc.small at hsm
  obtain ⟨hs1, hs2, hs3, hs4, hs5, hs6⟩ := hsm
  refine XK.enter (vs := [.pointer (some ⟨gs, 0, none⟩)]) Try.func78 rfl Try.ntmps78 (by simp) ?_
  refine XK.seq ?_

  refine XK.region ?_
  refine xk_assign rfl (by decide) ?_
  refine XK.nil ?_
  (repeat (first | refine XK.thenN ?_ | refine XK.thenE ?_ | refine XK.thenR ?_ | refine XK.inN ?_ | refine XK.inE ?_ | refine XK.inR ?_ | refine XK.inF rfl ?_))
  refine XK.seq ?_

  refine XK.region ?_
  refine xk_loadN 4 (by kernel_rfl) rfl (by first | assumption | exact RdN.whole 0 rfl | exact RdN.whole 1 rfl | exact RdN.whole 2 rfl | exact RdN.whole 3 rfl | exact RdN.whole 4 rfl | exact RdN.whole 5 rfl | exact RdN.whole 6 rfl | exact RdN.whole 7 rfl | exact RdN.whole 8 rfl | exact RdN.roc (by simp) (by assumption)) rfl (by decide) ?_
  refine xk_call [] (f := 45) (fi := []) (ca := []) (by kernel_rfl) rfl rfl (by decide) (by simp) (GrOk (domsG s)) (fun w1 st => doms_any s A1 A2 A3 A4 n1 k1 n2 k2 n3 k3 n4 k4 w1 (hW.le (st.started (by simp)))) ?_
  rintro _ w1 q ⟨Ag, cg, rfl, hgr⟩ hf' _ hfr'
  have hgq := hgr.le hf'
  have hgl : (domsG s).length = n2 := by simp [domsG]; omega
  refine xk_callR (f := 73) (fi := []) (ca := []) (by kernel_rfl) rfl rfl (by decide) (fun w1 st => cycle_any Ag _ cg (domsG s) w1 (hgq.le (st.le (by simp))) rfl (by omega) (fun l hl => by
    simp only [domsG, List.mem_map] at hl
    obtain ⟨x, hx, rfl⟩ := hl
    split <;> simp)) ?_
  refine xk_assign rfl (by decide) ?_
  refine XK.nil ?_
  (repeat (first | refine XK.thenN ?_ | refine XK.thenE ?_ | refine XK.thenR ?_ | refine XK.inN ?_ | refine XK.inE ?_ | refine XK.inR ?_ | refine XK.inF rfl ?_))
  refine XK.ret ?_
  (repeat (first | refine XK.thenN ?_ | refine XK.thenE ?_ | refine XK.thenR ?_ | refine XK.inN ?_ | refine XK.inE ?_ | refine XK.inR ?_ | refine XK.inF rfl ?_))
  exact XK.ret1 rfl rfl fun w1 st => ⟨rfl, st.below (by simp)⟩

theorem check_8 (s : Soc) (A1 A2 A3 A4 : Option Addr) (n1 k1 n2 k2 n3 k3 n4 k4 : Nat) (w : World) (hW : SocW w s A1 n1 A2 n2 A3 n3 A4 n4) (gs : Nat) (hs : ROn w gs 0 [.slice A1 n1 k1, .slice A2 n2 k2, .slice A3 n3 k3, .slice A4 n4 k4]) :
    Calls Try.prog 86 #[.pointer (some ⟨gs, 0, none⟩)] w (Rt (.int .i64 (cycE (needsG s))) w) := by
  have hn1 := hW.len1
  have hn2 := hW.len2
  have hn3 := hW.len3
  have hn4 := hW.len4
  have hsm := hW.small
  unfold Soc.small at hsm
  obtain ⟨hs1, hs2, hs3, hs4, hs5, hs6⟩ := hsm
  refine XK.enter (vs := [.pointer (some ⟨gs, 0, none⟩)]) Try.func86 rfl Try.ntmps86 (by simp) ?_
  refine XK.seq ?_

  refine XK.region ?_
  refine xk_assign rfl (by decide) ?_
  refine XK.nil ?_
  (repeat (first | refine XK.thenN ?_ | refine XK.thenE ?_ | refine XK.thenR ?_ | refine XK.inN ?_ | refine XK.inE ?_ | refine XK.inR ?_ | refine XK.inF rfl ?_))
  refine XK.seq ?_

  refine XK.region ?_
  refine xk_loadN 4 (by kernel_rfl) rfl (by first | assumption | exact RdN.whole 0 rfl | exact RdN.whole 1 rfl | exact RdN.whole 2 rfl | exact RdN.whole 3 rfl | exact RdN.whole 4 rfl | exact RdN.whole 5 rfl | exact RdN.whole 6 rfl | exact RdN.whole 7 rfl | exact RdN.whole 8 rfl | exact RdN.roc (by simp) (by assumption)) rfl (by decide) ?_
  refine xk_call [] (f := 87) (fi := []) (ca := []) (by kernel_rfl) rfl rfl (by decide) (by simp) (GrOk (needsG s)) (fun w1 st => needs_any s A1 A2 A3 A4 n1 k1 n2 k2 n3 k3 n4 k4 w1 (hW.le (st.started (by simp)))) ?_
  rintro _ w1 q ⟨Ag, cg, rfl, hgr⟩ hf' _ hfr'
  have hgq := hgr.le hf'
  have hgl : (needsG s).length = n4 := by simp [needsG]; omega
  refine xk_callR (f := 73) (fi := []) (ca := []) (by kernel_rfl) rfl rfl (by decide) (fun w1 st => cycle_any Ag _ cg (needsG s) w1 (hgq.le (st.le (by simp))) rfl (by omega) (fun l hl => by
    simp only [needsG, List.mem_map] at hl
    obtain ⟨x, hx, rfl⟩ := hl
    have := hs6 x hx; omega)) ?_
  refine xk_assign rfl (by decide) ?_
  refine XK.nil ?_
  (repeat (first | refine XK.thenN ?_ | refine XK.thenE ?_ | refine XK.thenR ?_ | refine XK.inN ?_ | refine XK.inE ?_ | refine XK.inR ?_ | refine XK.inF rfl ?_))
  refine XK.ret ?_
  (repeat (first | refine XK.thenN ?_ | refine XK.thenE ?_ | refine XK.thenR ?_ | refine XK.inN ?_ | refine XK.inE ?_ | refine XK.inR ?_ | refine XK.inF rfl ?_))
  exact XK.ret1 rfl rfl fun w1 st => ⟨rfl, st.below (by simp)⟩

theorem checkS_any (s : Soc) (A1 A2 A3 A4 : Option Addr) (n1 k1 n2 k2 n3 k3 n4 k4 : Nat) (w : World) (hW : SocW w s A1 n1 A2 n2 A3 n3 A4 n4) :
    Calls Try.prog 43 #[.agg #[.slice A1 n1 k1, .slice A2 n2 k2, .slice A3 n3 k3, .slice A4 n4 k4]] w (Rt (.int .i64 (checkS s)) w) := by
  refine XK.enter (vs := [.agg #[.slice A1 n1 k1, .slice A2 n2 k2, .slice A3 n3 k3, .slice A4 n4 k4]]) Try.func43 rfl Try.ntmps43 (by simp) ?_
  refine XK.seq ?_

  refine XK.region ?_
  refine xk_box rfl (by decide) fun g1 => ?_
  refine xk_assign rfl (by decide) ?_
  refine XK.nil ?_
  (repeat (first | refine XK.thenN ?_ | refine XK.thenE ?_ | refine XK.thenR ?_ | refine XK.inN ?_ | refine XK.inE ?_ | refine XK.inR ?_ | refine XK.inF rfl ?_))
  refine XK.seq ?_

  refine XK.region ?_
  refine xk_func (vf := []) (vc := [.pointer (some ⟨g1, 0, none⟩)]) rfl rfl (by decide) ?_
  refine xk_func (vf := []) (vc := [.pointer (some ⟨g1, 0, none⟩)]) rfl rfl (by decide) ?_
  refine xk_func (vf := []) (vc := [.pointer (some ⟨g1, 0, none⟩)]) rfl rfl (by decide) ?_
  refine xk_func (vf := []) (vc := [.pointer (some ⟨g1, 0, none⟩)]) rfl rfl (by decide) ?_
  refine xk_func (vf := []) (vc := [.pointer (some ⟨g1, 0, none⟩)]) rfl rfl (by decide) ?_
  refine xk_func (vf := []) (vc := [.pointer (some ⟨g1, 0, none⟩)]) rfl rfl (by decide) ?_
  refine xk_func (vf := []) (vc := [.pointer (some ⟨g1, 0, none⟩)]) rfl rfl (by decide) ?_
  refine xk_func (vf := []) (vc := [.pointer (some ⟨g1, 0, none⟩)]) rfl rfl (by decide) ?_
  refine xk_slice (el := 139) (sz := 1) (zs := [.nilFunc]) (by kernel_rfl) (zeroB_of (by kernel_rfl)) (by kernel_rfl) rfl (by decide) (by decide) rfl (by simp [fillL, setN, Value.cells, List.range_succ, List.set]; rfl) (by decide) fun g2 => ?_
  refine xk_callR (f := 65) (fi := []) (ca := []) (by kernel_rfl) rfl rfl (by decide) (fun w1 st => first_any _ _ _ [(66, [.pointer (some ⟨g1, 0, none⟩)]), (68, [.pointer (some ⟨g1, 0, none⟩)]), (72, [.pointer (some ⟨g1, 0, none⟩)]), (74, [.pointer (some ⟨g1, 0, none⟩)]), (78, [.pointer (some ⟨g1, 0, none⟩)]), (79, [.pointer (some ⟨g1, 0, none⟩)]), (82, [.pointer (some ⟨g1, 0, none⟩)]), (86, [.pointer (some ⟨g1, 0, none⟩)])] (checkL s) w1 (st.slS (i := 0) (n := 8) (sz := 1) (cs := [.func (.func 66) #[] #[.pointer (some ⟨g1, 0, none⟩)], .func (.func 68) #[] #[.pointer (some ⟨g1, 0, none⟩)], .func (.func 72) #[] #[.pointer (some ⟨g1, 0, none⟩)], .func (.func 74) #[] #[.pointer (some ⟨g1, 0, none⟩)], .func (.func 78) #[] #[.pointer (some ⟨g1, 0, none⟩)], .func (.func 79) #[] #[.pointer (some ⟨g1, 0, none⟩)], .func (.func 82) #[] #[.pointer (some ⟨g1, 0, none⟩)], .func (.func 86) #[] #[.pointer (some ⟨g1, 0, none⟩)]]) rfl rfl) rfl rfl (by decide) (by simp only [List.mem_cons, List.not_mem_nil, or_false]; rintro f (rfl | rfl | rfl | rfl | rfl | rfl | rfl | rfl) <;> kernel_rfl) (fun i f x hf hx w2 hb2 => by
    have hbb := (st.started (by simp)).trans (hb2.mono st.size)
    unfold checkL at hx
    match i, hf, hx with
    | 0, hf, hx => cases hf; cases hx; exact check_1 s A1 A2 A3 A4 n1 k1 n2 k2 n3 k3 n4 k4 w2 (hW.le hbb) g1 (st.box (cs := [.slice A1 n1 k1, .slice A2 n2 k2, .slice A3 n3 k3, .slice A4 n4 k4]) (i := 1) rfl |>.below hb2)
    | 1, hf, hx => cases hf; cases hx; exact check_2 s A1 A2 A3 A4 n1 k1 n2 k2 n3 k3 n4 k4 w2 (hW.le hbb) g1 (st.box (cs := [.slice A1 n1 k1, .slice A2 n2 k2, .slice A3 n3 k3, .slice A4 n4 k4]) (i := 1) rfl |>.below hb2)
    | 2, hf, hx => cases hf; cases hx; exact check_3 s A1 A2 A3 A4 n1 k1 n2 k2 n3 k3 n4 k4 w2 (hW.le hbb) g1 (st.box (cs := [.slice A1 n1 k1, .slice A2 n2 k2, .slice A3 n3 k3, .slice A4 n4 k4]) (i := 1) rfl |>.below hb2)
    | 3, hf, hx => cases hf; cases hx; exact check_4 s A1 A2 A3 A4 n1 k1 n2 k2 n3 k3 n4 k4 w2 (hW.le hbb) g1 (st.box (cs := [.slice A1 n1 k1, .slice A2 n2 k2, .slice A3 n3 k3, .slice A4 n4 k4]) (i := 1) rfl |>.below hb2)
    | 4, hf, hx => cases hf; cases hx; exact check_5 s A1 A2 A3 A4 n1 k1 n2 k2 n3 k3 n4 k4 w2 (hW.le hbb) g1 (st.box (cs := [.slice A1 n1 k1, .slice A2 n2 k2, .slice A3 n3 k3, .slice A4 n4 k4]) (i := 1) rfl |>.below hb2)
    | 5, hf, hx => cases hf; cases hx; exact check_6 s A1 A2 A3 A4 n1 k1 n2 k2 n3 k3 n4 k4 w2 (hW.le hbb) g1 (st.box (cs := [.slice A1 n1 k1, .slice A2 n2 k2, .slice A3 n3 k3, .slice A4 n4 k4]) (i := 1) rfl |>.below hb2)
    | 6, hf, hx => cases hf; cases hx; exact check_7 s A1 A2 A3 A4 n1 k1 n2 k2 n3 k3 n4 k4 w2 (hW.le hbb) g1 (st.box (cs := [.slice A1 n1 k1, .slice A2 n2 k2, .slice A3 n3 k3, .slice A4 n4 k4]) (i := 1) rfl |>.below hb2)
    | 7, hf, hx => cases hf; cases hx; exact check_8 s A1 A2 A3 A4 n1 k1 n2 k2 n3 k3 n4 k4 w2 (hW.le hbb) g1 (st.box (cs := [.slice A1 n1 k1, .slice A2 n2 k2, .slice A3 n3 k3, .slice A4 n4 k4]) (i := 1) rfl |>.below hb2)
    | i + 8, hf, _ => simp at hf)) ?_
  refine xk_assign rfl (by decide) ?_
  refine XK.nil ?_
  (repeat (first | refine XK.thenN ?_ | refine XK.thenE ?_ | refine XK.thenR ?_ | refine XK.inN ?_ | refine XK.inE ?_ | refine XK.inR ?_ | refine XK.inF rfl ?_))
  refine XK.ret ?_
  (repeat (first | refine XK.thenN ?_ | refine XK.thenE ?_ | refine XK.thenR ?_ | refine XK.inN ?_ | refine XK.inE ?_ | refine XK.inR ?_ | refine XK.inF rfl ?_))
  exact XK.ret1 rfl rfl fun w1 st => ⟨rfl, st.below (by simp)⟩

end Go.Proofs.Ytbgibbbggajgaaa
