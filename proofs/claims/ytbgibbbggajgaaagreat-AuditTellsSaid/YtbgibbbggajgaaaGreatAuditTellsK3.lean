/- conf.Check: what is told of any chip. -/
import Derived.Laws.Cover3
import Derived.Test.YtbgibbbggajgaaaGreatAuditTellsK2
namespace Go.Proofs.YtbgibbbggajgaaaGreat
set_option linter.all false
open Go.RowKit
def fullE (s : Soc) : Int := if (12 : Int) < s.clocks.length ∨ (6 : Int) < s.domains.length ∨ (6 : Int) < s.resets.length ∨ (6 : Int) < s.devs.length then 8 else firstE (s.devs.map manyE)
def checkL (s : Soc) : List Int := [fullE s, firstE (s.clocks.map (clockE s.clocks.length)), cycE (clocksG s), firstE (s.domains.map (domainE s.domains.length)), cycE (domsG s), firstE (s.resets.map resetE),
  firstE (s.devs.map (deviceE s.clocks.length s.domains.length s.resets.length s.devs.length)), cycE (needsG s)]
def checkS (s : Soc) : Int := firstE (checkL s)
theorem RsR.rows {α : Type} {w : World} {R : α → List Value → Prop} {t : TypeId} {sz n : Nat} {A : Option Addr} {es : List α} (h : RsR (slq (all w)) R t sz A n es) (h1 : ∀ e r, R e r → ∀ u ∈ r, u.oneCell' = true) :
    ∃ rows : List (List Value), SlS (all w) sz A n rows.flatten ∧ (∀ r ∈ rows, r.length = sz) ∧ (∀ r ∈ rows, ∀ u ∈ r, u.oneCell' = true) ∧ rows.length = n ∧ n = es.length ∧ ∀ (i : Nat) (r : List Value), rows[i]? = some r → ∃ e, es[i]? = some e ∧ R e r := by
  obtain ⟨rows, h2, h3, h4⟩ := h
  refine ⟨rows, h4, h2.all_len, fun r hr => ?_, by rw [h2.len.1, h3], h3, fun i r hr => ?_⟩
  · obtain ⟨i, hi⟩ := List.getElem?_of_mem hr
    obtain ⟨e, _, _, hR⟩ := h2.at_ hi
    exact h1 e r hR
  · obtain ⟨e, he, _, hR⟩ := h2.at_ hr
    exact ⟨e, he, hR⟩
theorem ClkR.one {S : SlP} (e : Clk) (r : List Value) (h : ClkR S e r) : ∀ u ∈ r, u.oneCell' = true := by obtain ⟨A, n, k, rfl, _⟩ := h; simp [Value.oneCell']
theorem DomR.one (e : Dom) (r : List Value) (h : DomR e r) : ∀ u ∈ r, u.oneCell' = true := by cases h; simp [Value.oneCell']
theorem RstR.one (e : Int) (r : List Value) (h : RstR e r) : ∀ u ∈ r, u.oneCell' = true := by cases h; simp [Value.oneCell']
theorem DevR.one {S : SlP} (e : Dev) (r : List Value) (h : DevR S e r) : ∀ u ∈ r, u.oneCell' = true := by obtain ⟨A, n, k, A', n', k', rfl, _⟩ := h; simp [Value.oneCell']

theorem full_any (s : Soc) (A1 A2 A3 A4 : Option Addr) (n1 k1 n2 k2 n3 k3 n4 k4 : Nat) (w : World) (hW : SocW w s A1 n1 A2 n2 A3 n3 A4 n4) :
    Calls Tryz.prog 80 #[.agg #[.slice A1 n1 k1, .slice A2 n2 k2, .slice A3 n3 k3, .slice A4 n4 k4]] w (Rt (.int .i64 (fullE s)) w) := by
  have hn1 := hW.len1
  have hn2 := hW.len2
  have hn3 := hW.len3
  have hn4 := hW.len4
  have hsm := hW.small
  unfold Soc.small at hsm
  obtain ⟨hs1, hs2, hs3, hs4, hs5, hs6⟩ := hsm
  obtain ⟨rows, hr1, hr2, hr3, hr4, hr5, hr6⟩ := hW.dev.rows DevR.one
  refine XK.enter (vs := [.agg #[.slice A1 n1 k1, .slice A2 n2 k2, .slice A3 n3 k3, .slice A4 n4 k4]]) Tryz.func80 rfl Tryz.ntmps80 (by simp) ?_
  refine XK.seq ?_

  refine XK.region ?_
  refine xk_box rfl (by decide) fun g1 => ?_
  refine xk_assign rfl (by decide) ?_
  refine XK.nilN ?_
  refine XK.seq ?_
  refine XK.seq ?_

  refine XK.region ?_
  refine xk_field (off := 0) (by kernel_rfl) rfl (by decide) ?_
  refine xk_ld rfl ?_
  refine xk_len (el := 87) (by kernel_rfl) rfl (by decide) ?_
  refine xk_gtr rfl rfl (by decide) ?_
  refine xk_move rfl (by decide) ?_
  refine xk_split (t := 7) rfl (fun hg => ?_) (fun hg => ?_)
  ·
    refine xk_guardF rfl rfl rfl (by decide) ?_
    refine xk_guardF rfl rfl rfl (by decide) ?_
    refine xk_guardF rfl rfl rfl (by decide) ?_
    refine xk_guardF rfl rfl rfl (by decide) ?_
    (first | refine xk_pickT rfl rfl (by decide) ?_ | refine xk_pickF rfl rfl (by decide) ?_)
    refine xk_move rfl (by decide) ?_
    refine xk_guardF rfl rfl rfl (by decide) ?_
    refine xk_guardF rfl rfl rfl (by decide) ?_
    refine xk_guardF rfl rfl rfl (by decide) ?_
    refine xk_guardF rfl rfl rfl (by decide) ?_
    (first | refine xk_pickT rfl rfl (by decide) ?_ | refine xk_pickF rfl rfl (by decide) ?_)
    refine xk_move rfl (by decide) ?_
    refine xk_guardF rfl rfl rfl (by decide) ?_
    refine xk_guardF rfl rfl rfl (by decide) ?_
    refine xk_guardF rfl rfl rfl (by decide) ?_
    refine xk_guardF rfl rfl rfl (by decide) ?_
    (first | refine xk_pickT rfl rfl (by decide) ?_ | refine xk_pickF rfl rfl (by decide) ?_)
    refine XK.nilN ?_
    refine XK.cond rfl (fun _ => ?_) (fun h => by cases h)
    refine XK.seq ?_

    refine XK.region ?_
    refine xk_assign rfl (by decide) ?_
    refine XK.nilN ?_
    refine XK.ret ?_
    refine XK.norm ?_
    exact XK.ret1 rfl rfl fun w1 st => ⟨by rw [fullE, if_pos (by omega)], st.below (by simp)⟩
  ·
    refine xk_guardT rfl rfl ?_; refine xk_field (off := 1) (by kernel_rfl) rfl (by decide) ?_
    refine xk_guardT rfl rfl ?_; refine xk_ld rfl ?_
    refine xk_guardT rfl rfl ?_; refine xk_len (el := 89) (by kernel_rfl) rfl (by decide) ?_
    refine xk_guardT rfl rfl ?_; refine xk_gtr rfl rfl (by decide) ?_
    (first | refine xk_pickT rfl rfl (by decide) ?_ | refine xk_pickF rfl rfl (by decide) ?_)
    refine xk_move rfl (by decide) ?_
    refine xk_split (t := 13) rfl (fun hg => ?_) (fun hg => ?_)
    ·
      refine xk_guardF rfl rfl rfl (by decide) ?_
      refine xk_guardF rfl rfl rfl (by decide) ?_
      refine xk_guardF rfl rfl rfl (by decide) ?_
      refine xk_guardF rfl rfl rfl (by decide) ?_
      (first | refine xk_pickT rfl rfl (by decide) ?_ | refine xk_pickF rfl rfl (by decide) ?_)
      refine xk_move rfl (by decide) ?_
      refine xk_guardF rfl rfl rfl (by decide) ?_
      refine xk_guardF rfl rfl rfl (by decide) ?_
      refine xk_guardF rfl rfl rfl (by decide) ?_
      refine xk_guardF rfl rfl rfl (by decide) ?_
      (first | refine xk_pickT rfl rfl (by decide) ?_ | refine xk_pickF rfl rfl (by decide) ?_)
      refine XK.nilN ?_
      refine XK.cond rfl (fun _ => ?_) (fun h => by cases h)
      refine XK.seq ?_

      refine XK.region ?_
      refine xk_assign rfl (by decide) ?_
      refine XK.nilN ?_
      refine XK.ret ?_
      refine XK.norm ?_
      exact XK.ret1 rfl rfl fun w1 st => ⟨by rw [fullE, if_pos (by omega)], st.below (by simp)⟩
    ·
      refine xk_guardT rfl rfl ?_; refine xk_field (off := 2) (by kernel_rfl) rfl (by decide) ?_
      refine xk_guardT rfl rfl ?_; refine xk_ld rfl ?_
      refine xk_guardT rfl rfl ?_; refine xk_len (el := 91) (by kernel_rfl) rfl (by decide) ?_
      refine xk_guardT rfl rfl ?_; refine xk_gtr rfl rfl (by decide) ?_
      (first | refine xk_pickT rfl rfl (by decide) ?_ | refine xk_pickF rfl rfl (by decide) ?_)
      refine xk_move rfl (by decide) ?_
      refine xk_split (t := 19) rfl (fun hg => ?_) (fun hg => ?_)
      ·
        refine xk_guardF rfl rfl rfl (by decide) ?_
        refine xk_guardF rfl rfl rfl (by decide) ?_
        refine xk_guardF rfl rfl rfl (by decide) ?_
        refine xk_guardF rfl rfl rfl (by decide) ?_
        (first | refine xk_pickT rfl rfl (by decide) ?_ | refine xk_pickF rfl rfl (by decide) ?_)
        refine XK.nilN ?_
        refine XK.cond rfl (fun _ => ?_) (fun h => by cases h)
        refine XK.seq ?_

        refine XK.region ?_
        refine xk_assign rfl (by decide) ?_
        refine XK.nilN ?_
        refine XK.ret ?_
        refine XK.norm ?_
        exact XK.ret1 rfl rfl fun w1 st => ⟨by rw [fullE, if_pos (by omega)], st.below (by simp)⟩
      ·
        refine xk_guardT rfl rfl ?_; refine xk_field (off := 3) (by kernel_rfl) rfl (by decide) ?_
        refine xk_guardT rfl rfl ?_; refine xk_ld rfl ?_
        refine xk_guardT rfl rfl ?_; refine xk_len (el := 94) (by kernel_rfl) rfl (by decide) ?_
        refine xk_guardT rfl rfl ?_; refine xk_gtr rfl rfl (by decide) ?_
        (first | refine xk_pickT rfl rfl (by decide) ?_ | refine xk_pickF rfl rfl (by decide) ?_)
        refine XK.nilN ?_
        refine XK.if_ rfl (fun h => ?_) (fun h => ?_)
        ·
          refine XK.seq ?_

          refine XK.region ?_
          refine xk_assign rfl (by decide) ?_
          refine XK.nilN ?_
          refine XK.ret ?_
          refine XK.norm ?_
          exact XK.ret1 rfl rfl fun w1 st => ⟨by rw [fullE, if_pos (by omega)], st.below (by simp)⟩
        ·
          refine XK.skip ?_
          refine XK.norm ?_
          refine XK.seq ?_

          refine XK.region ?_
          refine xk_field (off := 3) (by kernel_rfl) rfl (by decide) ?_
          refine xk_ld rfl ?_
          refine xk_callR (f := 96) (fi := []) (ca := []) (by kernel_rfl) rfl rfl (by decide) (fun w1 st => each_dev A4 n4 k4 123 [] rows (s.devs.map manyE) w1 (hr1.le (all_le (st.started (by simp)))) hr2 hr3 hr4 (by simp; omega) (by omega) (by kernel_rfl) (fun i r x hr hx w2 hb2 => by
    have hbb := (st.started (by simp)).trans (hb2.mono st.size)
    obtain ⟨e, he, hR⟩ := hr6 i r hr
    rw [List.getElem?_map, he] at hx
    cases hx
    obtain ⟨Ar, nr, kr, Af, nf, kf, rfl, hnr, hnf, _, hsf⟩ := hR
    exact full_1 e.regs e.needs _ _ _ _ _ _ _ _ _ _ w2 hnr hnf)) ?_
          refine xk_assign rfl (by decide) ?_
          refine XK.nilN ?_
          refine XK.ret ?_
          refine XK.norm ?_
          exact XK.ret1 rfl rfl fun w1 st => ⟨by rw [fullE, if_neg (by omega)], st.below (by simp)⟩

theorem check_1 (s : Soc) (A1 A2 A3 A4 : Option Addr) (n1 k1 n2 k2 n3 k3 n4 k4 : Nat) (w : World) (hW : SocW w s A1 n1 A2 n2 A3 n3 A4 n4) (gs : Nat) (hs : ROn w gs 0 [.slice A1 n1 k1, .slice A2 n2 k2, .slice A3 n3 k3, .slice A4 n4 k4]) :
    Calls Tryz.prog 79 #[.pointer (some ⟨gs, 0, none⟩)] w (Rt (.int .i64 (fullE s)) w) := by
  have hn1 := hW.len1
  have hn2 := hW.len2
  have hn3 := hW.len3
  have hn4 := hW.len4
  have hsm := hW.small
  unfold Soc.small at hsm
  obtain ⟨hs1, hs2, hs3, hs4, hs5, hs6⟩ := hsm
  refine XK.enter (vs := [.pointer (some ⟨gs, 0, none⟩)]) Tryz.func79 rfl Tryz.ntmps79 (by simp) ?_
  refine XK.seq ?_

  refine XK.region ?_
  refine xk_assign rfl (by decide) ?_
  refine XK.nilN ?_
  refine XK.seq ?_

  refine XK.region ?_
  refine xk_ldN 4 rfl ?_
  refine xk_callR (f := 80) (fi := []) (ca := []) (by kernel_rfl) rfl rfl (by decide) (fun w1 st => full_any s A1 A2 A3 A4 n1 k1 n2 k2 n3 k3 n4 k4 w1 (hW.le (st.started (by simp)))) ?_
  refine xk_assign rfl (by decide) ?_
  refine XK.nilN ?_
  refine XK.ret ?_
  refine XK.norm ?_
  exact XK.ret1 rfl rfl fun w1 st => ⟨rfl, st.below (by simp)⟩

theorem check_2_1 (kind rate mul div lock : Int) (A : Option Addr) (n k : Nat) (A1 A2 A3 A4 : Option Addr) (n1 k1 n2 k2 n3 k3 n4 k4 : Nat) (gs : Nat) (w : World) (hs : ROn w gs 0 [.slice A1 n1 k1, .slice A2 n2 k2, .slice A3 n3 k3, .slice A4 n4 k4]) (hz1 : (n1 : Int) ≤ 9223372036854775806) (zs : List Int) (hA : SlS (all w) 1 A n (intCells zs)) (hn : n = zs.length) (hz : (n : Int) ≤ 9223372036854775806) :
    Calls Tryz.prog 83 #[.agg #[.int .u8 kind, .slice A n k, .int .u64 rate, .int .i64 mul, .int .i64 div, .int .i64 lock], .pointer (some ⟨gs, 0, none⟩)] w (Rt (.int .i64 (clockE n1 ⟨kind, zs, rate, mul, div, lock⟩)) w) := by
  refine XK.enter (vs := [.agg #[.int .u8 kind, .slice A n k, .int .u64 rate, .int .i64 mul, .int .i64 div, .int .i64 lock], .pointer (some ⟨gs, 0, none⟩)]) Tryz.func83 rfl Tryz.ntmps83 (by simp) ?_
  refine XK.seq ?_

  refine XK.region ?_
  refine xk_box rfl (by decide) fun g1 => ?_
  refine xk_assign rfl (by decide) ?_
  refine XK.nilN ?_
  refine XK.seq ?_

  refine XK.region ?_
  refine xk_ldN 4 rfl ?_
  refine xk_ldN 6 rfl ?_
  refine xk_callR (f := 84) (fi := []) (ca := []) (by kernel_rfl) rfl rfl (by decide) (fun w1 st => clock_any kind rate mul div lock A n k A1 A2 A3 A4 n1 k1 n2 k2 n3 k3 n4 k4 w1 hz1 zs (hA.le (all_le (st.started (by simp)))) hn hz) ?_
  refine xk_assign rfl (by decide) ?_
  refine XK.nilN ?_
  refine XK.ret ?_
  refine XK.norm ?_
  exact XK.ret1 rfl rfl fun w1 st => ⟨rfl, st.below (by simp)⟩

theorem check_4_1 (above delay : Int) (ret : Bool) (A1 A2 A3 A4 : Option Addr) (n1 k1 n2 k2 n3 k3 n4 k4 : Nat) (gs : Nat) (w : World) (hs : ROn w gs 0 [.slice A1 n1 k1, .slice A2 n2 k2, .slice A3 n3 k3, .slice A4 n4 k4]) (hz2 : (n2 : Int) ≤ 9223372036854775806) :
    Calls Tryz.prog 89 #[.agg #[.int .i64 above, .int .i64 delay, .bool ret], .pointer (some ⟨gs, 0, none⟩)] w (Rt (.int .i64 (domainE n2 ⟨above, delay, ret⟩)) w) := by
  refine XK.enter (vs := [.agg #[.int .i64 above, .int .i64 delay, .bool ret], .pointer (some ⟨gs, 0, none⟩)]) Tryz.func89 rfl Tryz.ntmps89 (by simp) ?_
  refine XK.seq ?_

  refine XK.region ?_
  refine xk_box rfl (by decide) fun g1 => ?_
  refine xk_assign rfl (by decide) ?_
  refine XK.nilN ?_
  refine XK.seq ?_

  refine XK.region ?_
  refine xk_ldN 4 rfl ?_
  refine xk_ldN 3 rfl ?_
  refine xk_callR (f := 90) (fi := []) (ca := []) (by kernel_rfl) rfl rfl (by decide) (fun w1 st => domain_any above delay ret A1 A2 A3 A4 n1 k1 n2 k2 n3 k3 n4 k4 w1 hz2) ?_
  refine xk_assign rfl (by decide) ?_
  refine XK.nilN ?_
  refine XK.ret ?_
  refine XK.norm ?_
  exact XK.ret1 rfl rfl fun w1 st => ⟨rfl, st.below (by simp)⟩

theorem check_7_1 (rg : List Rg) (clock domain reset clamp : Int) (A B : Option Addr) (n k nb kb : Nat) (A1 A2 A3 A4 : Option Addr) (n1 k1 n2 k2 n3 k3 n4 k4 : Nat) (gs : Nat) (w : World) (hs : ROn w gs 0 [.slice A1 n1 k1, .slice A2 n2 k2, .slice A3 n3 k3, .slice A4 n4 k4]) (hz1 : (n1 : Int) ≤ 9223372036854775806) (hz2 : (n2 : Int) ≤ 9223372036854775806) (hz3 : (n3 : Int) ≤ 9223372036854775806) (hz4 : (n4 : Int) ≤ 9223372036854775806) (zs : List Int) (hA : SlS (all w) 1 A n (intCells zs)) (hn : n = zs.length) (hz : (n : Int) ≤ 9223372036854775806) :
    Calls Tryz.prog 97 #[.agg #[.int .i64 clock, .int .i64 domain, .int .i64 reset, .int .u32 clamp, .slice B nb kb, .slice A n k], .pointer (some ⟨gs, 0, none⟩)] w (Rt (.int .i64 (deviceE n1 n2 n3 n4 ⟨clock, domain, reset, clamp, rg, zs⟩)) w) := by
  refine XK.enter (vs := [.agg #[.int .i64 clock, .int .i64 domain, .int .i64 reset, .int .u32 clamp, .slice B nb kb, .slice A n k], .pointer (some ⟨gs, 0, none⟩)]) Tryz.func97 rfl Tryz.ntmps97 (by simp) ?_
  refine XK.seq ?_

  refine XK.region ?_
  refine xk_box rfl (by decide) fun g1 => ?_
  refine xk_assign rfl (by decide) ?_
  refine XK.nilN ?_
  refine XK.seq ?_

  refine XK.region ?_
  refine xk_ldN 4 rfl ?_
  refine xk_ldN 6 rfl ?_
  refine xk_callR (f := 98) (fi := []) (ca := []) (by kernel_rfl) rfl rfl (by decide) (fun w1 st => device_any rg clock domain reset clamp A B n k nb kb A1 A2 A3 A4 n1 k1 n2 k2 n3 k3 n4 k4 w1 hz1 hz2 hz3 hz4 zs (hA.le (all_le (st.started (by simp)))) hn hz) ?_
  refine xk_assign rfl (by decide) ?_
  refine XK.nilN ?_
  refine XK.ret ?_
  refine XK.norm ?_
  exact XK.ret1 rfl rfl fun w1 st => ⟨rfl, st.below (by simp)⟩

theorem check_2 (s : Soc) (A1 A2 A3 A4 : Option Addr) (n1 k1 n2 k2 n3 k3 n4 k4 : Nat) (w : World) (hW : SocW w s A1 n1 A2 n2 A3 n3 A4 n4) (gs : Nat) (hs : ROn w gs 0 [.slice A1 n1 k1, .slice A2 n2 k2, .slice A3 n3 k3, .slice A4 n4 k4]) :
    Calls Tryz.prog 81 #[.pointer (some ⟨gs, 0, none⟩)] w (Rt (.int .i64 (firstE (s.clocks.map (clockE s.clocks.length)))) w) := by
  have hn1 := hW.len1
  have hn2 := hW.len2
  have hn3 := hW.len3
  have hn4 := hW.len4
  have hsm := hW.small
  unfold Soc.small at hsm
  obtain ⟨hs1, hs2, hs3, hs4, hs5, hs6⟩ := hsm
  obtain ⟨rows, hr1, hr2, hr3, hr4, hr5, hr6⟩ := hW.clk.rows ClkR.one
  rw [← hn1]
  refine XK.enter (vs := [.pointer (some ⟨gs, 0, none⟩)]) Tryz.func81 rfl Tryz.ntmps81 (by simp) ?_
  refine XK.seq ?_

  refine XK.region ?_
  refine xk_assign rfl (by decide) ?_
  refine XK.nilN ?_
  refine XK.seq ?_

  refine XK.region ?_
  refine xk_field (off := 0) (by kernel_rfl) rfl (by decide) ?_
  refine xk_ld rfl ?_
  refine xk_func (vf := []) (vc := [.pointer (some ⟨gs, 0, none⟩)]) rfl rfl (by decide) ?_
  refine xk_callR (f := 82) (fi := []) (ca := []) (by kernel_rfl) rfl rfl (by decide) (fun w1 st => each_clk A1 n1 k1 83 [.pointer (some ⟨gs, 0, none⟩)] rows (s.clocks.map (clockE n1)) w1 (hr1.le (all_le (st.started (by simp)))) hr2 hr3 hr4 (by simp; omega) (by omega) (by kernel_rfl) (fun i r x hr hx w2 hb2 => by
    have hbb := (st.started (by simp)).trans (hb2.mono st.size)
    obtain ⟨e, he, hR⟩ := hr6 i r hr
    rw [List.getElem?_map, he] at hx
    cases hx
    obtain ⟨Af, nf, kf, rfl, hnf, hsf⟩ := hR
    exact check_2_1 _ _ _ _ _ _ _ _ A1 A2 A3 A4 n1 k1 n2 k2 n3 k3 n4 k4 gs w2 (hs.below hbb) (by omega) e.src (SlS.le hsf (all_le hbb)) hnf (by have := hs5 e (List.mem_of_getElem? he); omega))) ?_
  refine xk_assign rfl (by decide) ?_
  refine XK.nilN ?_
  refine XK.ret ?_
  refine XK.norm ?_
  exact XK.ret1 rfl rfl fun w1 st => ⟨rfl, st.below (by simp)⟩

theorem check_4 (s : Soc) (A1 A2 A3 A4 : Option Addr) (n1 k1 n2 k2 n3 k3 n4 k4 : Nat) (w : World) (hW : SocW w s A1 n1 A2 n2 A3 n3 A4 n4) (gs : Nat) (hs : ROn w gs 0 [.slice A1 n1 k1, .slice A2 n2 k2, .slice A3 n3 k3, .slice A4 n4 k4]) :
    Calls Tryz.prog 87 #[.pointer (some ⟨gs, 0, none⟩)] w (Rt (.int .i64 (firstE (s.domains.map (domainE s.domains.length)))) w) := by
  have hn1 := hW.len1
  have hn2 := hW.len2
  have hn3 := hW.len3
  have hn4 := hW.len4
  have hsm := hW.small
  unfold Soc.small at hsm
  obtain ⟨hs1, hs2, hs3, hs4, hs5, hs6⟩ := hsm
  obtain ⟨rows, hr1, hr2, hr3, hr4, hr5, hr6⟩ := hW.dom.rows DomR.one
  rw [← hn2]
  refine XK.enter (vs := [.pointer (some ⟨gs, 0, none⟩)]) Tryz.func87 rfl Tryz.ntmps87 (by simp) ?_
  refine XK.seq ?_

  refine XK.region ?_
  refine xk_assign rfl (by decide) ?_
  refine XK.nilN ?_
  refine XK.seq ?_

  refine XK.region ?_
  refine xk_field (off := 1) (by kernel_rfl) rfl (by decide) ?_
  refine xk_ld rfl ?_
  refine xk_func (vf := []) (vc := [.pointer (some ⟨gs, 0, none⟩)]) rfl rfl (by decide) ?_
  refine xk_callR (f := 88) (fi := []) (ca := []) (by kernel_rfl) rfl rfl (by decide) (fun w1 st => each_dom A2 n2 k2 89 [.pointer (some ⟨gs, 0, none⟩)] rows (s.domains.map (domainE n2)) w1 (hr1.le (all_le (st.started (by simp)))) hr2 hr3 hr4 (by simp; omega) (by omega) (by kernel_rfl) (fun i r x hr hx w2 hb2 => by
    have hbb := (st.started (by simp)).trans (hb2.mono st.size)
    obtain ⟨e, he, hR⟩ := hr6 i r hr
    rw [List.getElem?_map, he] at hx
    cases hx
    obtain rfl := hR
    exact check_4_1 _ _ _ A1 A2 A3 A4 n1 k1 n2 k2 n3 k3 n4 k4 gs w2 (hs.below hbb) (by omega))) ?_
  refine xk_assign rfl (by decide) ?_
  refine XK.nilN ?_
  refine XK.ret ?_
  refine XK.norm ?_
  exact XK.ret1 rfl rfl fun w1 st => ⟨rfl, st.below (by simp)⟩

theorem check_6 (s : Soc) (A1 A2 A3 A4 : Option Addr) (n1 k1 n2 k2 n3 k3 n4 k4 : Nat) (w : World) (hW : SocW w s A1 n1 A2 n2 A3 n3 A4 n4) (gs : Nat) (hs : ROn w gs 0 [.slice A1 n1 k1, .slice A2 n2 k2, .slice A3 n3 k3, .slice A4 n4 k4]) :
    Calls Tryz.prog 92 #[.pointer (some ⟨gs, 0, none⟩)] w (Rt (.int .i64 (firstE (s.resets.map resetE))) w) := by
  have hn1 := hW.len1
  have hn2 := hW.len2
  have hn3 := hW.len3
  have hn4 := hW.len4
  have hsm := hW.small
  unfold Soc.small at hsm
  obtain ⟨hs1, hs2, hs3, hs4, hs5, hs6⟩ := hsm
  obtain ⟨rows, hr1, hr2, hr3, hr4, hr5, hr6⟩ := hW.rst.rows RstR.one
  refine XK.enter (vs := [.pointer (some ⟨gs, 0, none⟩)]) Tryz.func92 rfl Tryz.ntmps92 (by simp) ?_
  refine XK.seq ?_

  refine XK.region ?_
  refine xk_assign rfl (by decide) ?_
  refine XK.nilN ?_
  refine XK.seq ?_

  refine XK.region ?_
  refine xk_field (off := 2) (by kernel_rfl) rfl (by decide) ?_
  refine xk_ld rfl ?_
  refine xk_callR (f := 93) (fi := []) (ca := []) (by kernel_rfl) rfl rfl (by decide) (fun w1 st => each_rst A3 n3 k3 94 [] rows (s.resets.map resetE) w1 (hr1.le (all_le (st.started (by simp)))) hr2 hr3 hr4 (by simp; omega) (by omega) (by kernel_rfl) (fun i r x hr hx w2 hb2 => by
    have hbb := (st.started (by simp)).trans (hb2.mono st.size)
    obtain ⟨e, he, hR⟩ := hr6 i r hr
    rw [List.getElem?_map, he] at hx
    cases hx
    obtain rfl := hR
    exact reset_any _ w2)) ?_
  refine xk_assign rfl (by decide) ?_
  refine XK.nilN ?_
  refine XK.ret ?_
  refine XK.norm ?_
  exact XK.ret1 rfl rfl fun w1 st => ⟨rfl, st.below (by simp)⟩

theorem check_7 (s : Soc) (A1 A2 A3 A4 : Option Addr) (n1 k1 n2 k2 n3 k3 n4 k4 : Nat) (w : World) (hW : SocW w s A1 n1 A2 n2 A3 n3 A4 n4) (gs : Nat) (hs : ROn w gs 0 [.slice A1 n1 k1, .slice A2 n2 k2, .slice A3 n3 k3, .slice A4 n4 k4]) :
    Calls Tryz.prog 95 #[.pointer (some ⟨gs, 0, none⟩)] w (Rt (.int .i64 (firstE (s.devs.map (deviceE s.clocks.length s.domains.length s.resets.length s.devs.length)))) w) := by
  have hn1 := hW.len1
  have hn2 := hW.len2
  have hn3 := hW.len3
  have hn4 := hW.len4
  have hsm := hW.small
  unfold Soc.small at hsm
  obtain ⟨hs1, hs2, hs3, hs4, hs5, hs6⟩ := hsm
  obtain ⟨rows, hr1, hr2, hr3, hr4, hr5, hr6⟩ := hW.dev.rows DevR.one
  rw [← hn1, ← hn2, ← hn3, ← hn4]
  refine XK.enter (vs := [.pointer (some ⟨gs, 0, none⟩)]) Tryz.func95 rfl Tryz.ntmps95 (by simp) ?_
  refine XK.seq ?_

  refine XK.region ?_
  refine xk_assign rfl (by decide) ?_
  refine XK.nilN ?_
  refine XK.seq ?_

  refine XK.region ?_
  refine xk_field (off := 3) (by kernel_rfl) rfl (by decide) ?_
  refine xk_ld rfl ?_
  refine xk_func (vf := []) (vc := [.pointer (some ⟨gs, 0, none⟩)]) rfl rfl (by decide) ?_
  refine xk_callR (f := 96) (fi := []) (ca := []) (by kernel_rfl) rfl rfl (by decide) (fun w1 st => each_dev A4 n4 k4 97 [.pointer (some ⟨gs, 0, none⟩)] rows (s.devs.map (deviceE n1 n2 n3 n4)) w1 (hr1.le (all_le (st.started (by simp)))) hr2 hr3 hr4 (by simp; omega) (by omega) (by kernel_rfl) (fun i r x hr hx w2 hb2 => by
    have hbb := (st.started (by simp)).trans (hb2.mono st.size)
    obtain ⟨e, he, hR⟩ := hr6 i r hr
    rw [List.getElem?_map, he] at hx
    cases hx
    obtain ⟨Ar, nr, kr, Af, nf, kf, rfl, hnr, hnf, _, hsf⟩ := hR
    exact check_7_1 e.regs _ _ _ _ _ _ _ _ _ _ A1 A2 A3 A4 n1 k1 n2 k2 n3 k3 n4 k4 gs w2 (hs.below hbb) (by omega) (by omega) (by omega) (by omega) e.needs (SlS.le hsf (all_le hbb)) hnf (by have := hs6 e (List.mem_of_getElem? he); omega))) ?_
  refine xk_assign rfl (by decide) ?_
  refine XK.nilN ?_
  refine XK.ret ?_
  refine XK.norm ?_
  exact XK.ret1 rfl rfl fun w1 st => ⟨rfl, st.below (by simp)⟩

theorem check_3 (s : Soc) (A1 A2 A3 A4 : Option Addr) (n1 k1 n2 k2 n3 k3 n4 k4 : Nat) (w : World) (hW : SocW w s A1 n1 A2 n2 A3 n3 A4 n4) (gs : Nat) (hs : ROn w gs 0 [.slice A1 n1 k1, .slice A2 n2 k2, .slice A3 n3 k3, .slice A4 n4 k4]) :
    Calls Tryz.prog 85 #[.pointer (some ⟨gs, 0, none⟩)] w (Rt (.int .i64 (cycE (clocksG s))) w) := by
  have hn1 := hW.len1
  have hn2 := hW.len2
  have hn3 := hW.len3
  have hn4 := hW.len4
  have hsm := hW.small
  unfold Soc.small at hsm
  obtain ⟨hs1, hs2, hs3, hs4, hs5, hs6⟩ := hsm
  refine XK.enter (vs := [.pointer (some ⟨gs, 0, none⟩)]) Tryz.func85 rfl Tryz.ntmps85 (by simp) ?_
  refine XK.seq ?_

  refine XK.region ?_
  refine xk_assign rfl (by decide) ?_
  refine XK.nilN ?_
  refine XK.seq ?_

  refine XK.region ?_
  refine xk_ldN 4 rfl ?_
  refine xk_call [] (f := 54) (fi := []) (ca := []) (by kernel_rfl) rfl rfl (by decide) (by simp) (GrOk (clocksG s)) (fun w1 st => clocks_any s A1 A2 A3 A4 n1 k1 n2 k2 n3 k3 n4 k4 w1 (hW.le (st.started (by simp)))) ?_
  rintro _ w1 q ⟨Ag, cg, rfl, hgr⟩ hf' _ hfr'
  have hgq := hgr.le hf'
  have hgl : (clocksG s).length = n1 := by simp [clocksG]; omega
  refine xk_callR (f := 86) (fi := []) (ca := []) (by kernel_rfl) rfl rfl (by decide) (fun w1 st => cycle_any Ag _ cg (clocksG s) w1 (hgq.le (st.le (by simp))) rfl (by omega) (fun l hl => by
    simp only [clocksG, List.mem_map] at hl
    obtain ⟨x, hx, rfl⟩ := hl
    have := hs5 x hx; omega)) ?_
  refine xk_assign rfl (by decide) ?_
  refine XK.nilN ?_
  refine XK.ret ?_
  refine XK.norm ?_
  exact XK.ret1 rfl rfl fun w1 st => ⟨rfl, st.below (by simp)⟩

theorem check_5 (s : Soc) (A1 A2 A3 A4 : Option Addr) (n1 k1 n2 k2 n3 k3 n4 k4 : Nat) (w : World) (hW : SocW w s A1 n1 A2 n2 A3 n3 A4 n4) (gs : Nat) (hs : ROn w gs 0 [.slice A1 n1 k1, .slice A2 n2 k2, .slice A3 n3 k3, .slice A4 n4 k4]) :
    Calls Tryz.prog 91 #[.pointer (some ⟨gs, 0, none⟩)] w (Rt (.int .i64 (cycE (domsG s))) w) := by
  have hn1 := hW.len1
  have hn2 := hW.len2
  have hn3 := hW.len3
  have hn4 := hW.len4
  have hsm := hW.small
  unfold Soc.small at hsm
  obtain ⟨hs1, hs2, hs3, hs4, hs5, hs6⟩ := hsm
  refine XK.enter (vs := [.pointer (some ⟨gs, 0, none⟩)]) Tryz.func91 rfl Tryz.ntmps91 (by simp) ?_
  refine XK.seq ?_

  refine XK.region ?_
  refine xk_assign rfl (by decide) ?_
  refine XK.nilN ?_
  refine XK.seq ?_

  refine XK.region ?_
  refine xk_ldN 4 rfl ?_
  refine xk_call [] (f := 53) (fi := []) (ca := []) (by kernel_rfl) rfl rfl (by decide) (by simp) (GrOk (domsG s)) (fun w1 st => doms_any s A1 A2 A3 A4 n1 k1 n2 k2 n3 k3 n4 k4 w1 (hW.le (st.started (by simp)))) ?_
  rintro _ w1 q ⟨Ag, cg, rfl, hgr⟩ hf' _ hfr'
  have hgq := hgr.le hf'
  have hgl : (domsG s).length = n2 := by simp [domsG]; omega
  refine xk_callR (f := 86) (fi := []) (ca := []) (by kernel_rfl) rfl rfl (by decide) (fun w1 st => cycle_any Ag _ cg (domsG s) w1 (hgq.le (st.le (by simp))) rfl (by omega) (fun l hl => by
    simp only [domsG, List.mem_map] at hl
    obtain ⟨x, hx, rfl⟩ := hl
    split <;> simp)) ?_
  refine xk_assign rfl (by decide) ?_
  refine XK.nilN ?_
  refine XK.ret ?_
  refine XK.norm ?_
  exact XK.ret1 rfl rfl fun w1 st => ⟨rfl, st.below (by simp)⟩

theorem check_8 (s : Soc) (A1 A2 A3 A4 : Option Addr) (n1 k1 n2 k2 n3 k3 n4 k4 : Nat) (w : World) (hW : SocW w s A1 n1 A2 n2 A3 n3 A4 n4) (gs : Nat) (hs : ROn w gs 0 [.slice A1 n1 k1, .slice A2 n2 k2, .slice A3 n3 k3, .slice A4 n4 k4]) :
    Calls Tryz.prog 99 #[.pointer (some ⟨gs, 0, none⟩)] w (Rt (.int .i64 (cycE (needsG s))) w) := by
  have hn1 := hW.len1
  have hn2 := hW.len2
  have hn3 := hW.len3
  have hn4 := hW.len4
  have hsm := hW.small
  unfold Soc.small at hsm
  obtain ⟨hs1, hs2, hs3, hs4, hs5, hs6⟩ := hsm
  refine XK.enter (vs := [.pointer (some ⟨gs, 0, none⟩)]) Tryz.func99 rfl Tryz.ntmps99 (by simp) ?_
  refine XK.seq ?_

  refine XK.region ?_
  refine xk_assign rfl (by decide) ?_
  refine XK.nilN ?_
  refine XK.seq ?_

  refine XK.region ?_
  refine xk_ldN 4 rfl ?_
  refine xk_call [] (f := 65) (fi := []) (ca := []) (by kernel_rfl) rfl rfl (by decide) (by simp) (GrOk (needsG s)) (fun w1 st => needs_any s A1 A2 A3 A4 n1 k1 n2 k2 n3 k3 n4 k4 w1 (hW.le (st.started (by simp)))) ?_
  rintro _ w1 q ⟨Ag, cg, rfl, hgr⟩ hf' _ hfr'
  have hgq := hgr.le hf'
  have hgl : (needsG s).length = n4 := by simp [needsG]; omega
  refine xk_callR (f := 86) (fi := []) (ca := []) (by kernel_rfl) rfl rfl (by decide) (fun w1 st => cycle_any Ag _ cg (needsG s) w1 (hgq.le (st.le (by simp))) rfl (by omega) (fun l hl => by
    simp only [needsG, List.mem_map] at hl
    obtain ⟨x, hx, rfl⟩ := hl
    have := hs6 x hx; omega)) ?_
  refine xk_assign rfl (by decide) ?_
  refine XK.nilN ?_
  refine XK.ret ?_
  refine XK.norm ?_
  exact XK.ret1 rfl rfl fun w1 st => ⟨rfl, st.below (by simp)⟩

theorem checkS_any (s : Soc) (A1 A2 A3 A4 : Option Addr) (n1 k1 n2 k2 n3 k3 n4 k4 : Nat) (w : World) (hW : SocW w s A1 n1 A2 n2 A3 n3 A4 n4) :
    Calls Tryz.prog 47 #[.agg #[.slice A1 n1 k1, .slice A2 n2 k2, .slice A3 n3 k3, .slice A4 n4 k4]] w (Rt (.int .i64 (checkS s)) w) := by
  refine XK.enter (vs := [.agg #[.slice A1 n1 k1, .slice A2 n2 k2, .slice A3 n3 k3, .slice A4 n4 k4]]) Tryz.func47 rfl Tryz.ntmps47 (by simp) ?_
  refine XK.seq ?_

  refine XK.region ?_
  refine xk_box rfl (by decide) fun g1 => ?_
  refine xk_assign rfl (by decide) ?_
  refine XK.nilN ?_
  refine XK.seq ?_

  refine XK.region ?_
  refine xk_func (vf := []) (vc := [.pointer (some ⟨g1, 0, none⟩)]) rfl rfl (by decide) ?_
  refine xk_func (vf := []) (vc := [.pointer (some ⟨g1, 0, none⟩)]) rfl rfl (by decide) ?_
  refine xk_func (vf := []) (vc := [.pointer (some ⟨g1, 0, none⟩)]) rfl rfl (by decide) ?_
  refine xk_func (vf := []) (vc := [.pointer (some ⟨g1, 0, none⟩)]) rfl rfl (by decide) ?_
  refine xk_func (vf := []) (vc := [.pointer (some ⟨g1, 0, none⟩)]) rfl rfl (by decide) ?_
  refine xk_func (vf := []) (vc := [.pointer (some ⟨g1, 0, none⟩)]) rfl rfl (by decide) ?_
  refine xk_func (vf := []) (vc := [.pointer (some ⟨g1, 0, none⟩)]) rfl rfl (by decide) ?_
  refine xk_func (vf := []) (vc := [.pointer (some ⟨g1, 0, none⟩)]) rfl rfl (by decide) ?_
  refine xk_slice (el := 149) (sz := 1) (zs := [.nilFunc]) (by kernel_rfl) (zeroB_of (by kernel_rfl)) (by kernel_rfl) rfl (by decide) (by decide) rfl (by simp [fillL, setN, Value.cells, List.range_succ, List.set]; rfl) (by decide) fun g2 => ?_
  refine xk_callR (f := 78) (fi := []) (ca := []) (by kernel_rfl) rfl rfl (by decide) (fun w1 st => first_any _ _ _ [(79, [.pointer (some ⟨g1, 0, none⟩)]), (81, [.pointer (some ⟨g1, 0, none⟩)]), (85, [.pointer (some ⟨g1, 0, none⟩)]), (87, [.pointer (some ⟨g1, 0, none⟩)]), (91, [.pointer (some ⟨g1, 0, none⟩)]), (92, [.pointer (some ⟨g1, 0, none⟩)]), (95, [.pointer (some ⟨g1, 0, none⟩)]), (99, [.pointer (some ⟨g1, 0, none⟩)])] (checkL s) w1 (st.slS (i := 0) (n := 8) (sz := 1) (cs := [.func (.func 79) #[] #[.pointer (some ⟨g1, 0, none⟩)], .func (.func 81) #[] #[.pointer (some ⟨g1, 0, none⟩)], .func (.func 85) #[] #[.pointer (some ⟨g1, 0, none⟩)], .func (.func 87) #[] #[.pointer (some ⟨g1, 0, none⟩)], .func (.func 91) #[] #[.pointer (some ⟨g1, 0, none⟩)], .func (.func 92) #[] #[.pointer (some ⟨g1, 0, none⟩)], .func (.func 95) #[] #[.pointer (some ⟨g1, 0, none⟩)], .func (.func 99) #[] #[.pointer (some ⟨g1, 0, none⟩)]]) rfl rfl) rfl rfl (by decide) (by simp only [List.mem_cons, List.not_mem_nil, or_false]; rintro f (rfl | rfl | rfl | rfl | rfl | rfl | rfl | rfl) <;> kernel_rfl) (fun i f x hf hx w2 hb2 => by
    have hbb := (st.started (by simp)).trans (hb2.mono st.size)
    unfold checkL at hx
    match i, hf, hx with
    | 0, hf, hx => cases hf; cases hx; exact check_1 s A1 A2 A3 A4 n1 k1 n2 k2 n3 k3 n4 k4 w2 (hW.le hbb) g1 (st.box (cs := [.slice A1 n1 k1, .slice A2 n2 k2, .slice A3 n3 k3, .slice A4 n4 k4]) (i := 1) rfl |>.below hb2)
    | 1, hf, hx => cases hf; cases hx; exact check_2 s A1 A2 A3 A4 n1 k1 n2 k2 n3 k3 n4 k4 w2 (hW.le hbb) g1 (st.box (cs := [.slice A1 n1 k1, .slice A2 n2 k2, .slice A3 n3 k3, .slice A4 n4 k4]) (i := 1) rfl |>.below hb2)
    | 2, hf, hx => cases hf; cases hx; exact check_3 s A1 A2 A3 A4 n1 k1 n2 k2 n3 k3 n4 k4 w2 (hW.le hbb) g1 (st.box (cs := [.slice A1 n1 k1, .slice A2 n2 k2, .slice A3 n3 k3, .slice A4 n4 k4]) (i := 1) rfl |>.below hb2)
    | 3, hf, hx => cases hf; cases hx; exact check_4 s A1 A2 A3 A4 n1 k1 n2 k2 n3 k3 n4 k4 w2 (hW.le hbb) g1 (st.box (cs := [.slice A1 n1 k1, .slice A2 n2 k2, .slice A3 n3 k3, .slice A4 n4 k4]) (i := 1) rfl |>.below hb2)
    | 4, hf, hx => cases hf; cases hx; exact check_5 s A1 A2 A3 A4 n1 k1 n2 k2 n3 k3 n4 k4 w2 (hW.le hbb) g1 (st.box (cs := [.slice A1 n1 k1, .slice A2 n2 k2, .slice A3 n3 k3, .slice A4 n4 k4]) (i := 1) rfl |>.below hb2)
    | 5, hf, hx => cases hf; cases hx; exact check_6 s A1 A2 A3 A4 n1 k1 n2 k2 n3 k3 n4 k4 w2 (hW.le hbb) g1 (st.box (cs := [.slice A1 n1 k1, .slice A2 n2 k2, .slice A3 n3 k3, .slice A4 n4 k4]) (i := 1) rfl |>.below hb2)
    | 6, hf, hx => cases hf; cases hx; exact check_7 s A1 A2 A3 A4 n1 k1 n2 k2 n3 k3 n4 k4 w2 (hW.le hbb) g1 (st.box (cs := [.slice A1 n1 k1, .slice A2 n2 k2, .slice A3 n3 k3, .slice A4 n4 k4]) (i := 1) rfl |>.below hb2)
    | 7, hf, hx => cases hf; cases hx; exact check_8 s A1 A2 A3 A4 n1 k1 n2 k2 n3 k3 n4 k4 w2 (hW.le hbb) g1 (st.box (cs := [.slice A1 n1 k1, .slice A2 n2 k2, .slice A3 n3 k3, .slice A4 n4 k4]) (i := 1) rfl |>.below hb2)
    | i + 8, hf, _ => simp at hf)) ?_
  refine xk_assign rfl (by decide) ?_
  refine XK.nilN ?_
  refine XK.ret ?_
  refine XK.norm ?_
  exact XK.ret1 rfl rfl fun w1 st => ⟨rfl, st.below (by simp)⟩

end Go.Proofs.YtbgibbbggajgaaaGreat
/- plan: has; the iterator of those that are to turn. -/
namespace Go.Proofs.YtbgibbbggajgaaaGreat
set_option linter.all false
open Go.RowKit
attribute [local irreducible] KC KI KQ
def boolCells (l : List Bool) : List Value := l.map .bool
/-- a cell that a piece shows -/
def RP (p : Piece) (g o : Nat) (v : Value) : Prop := p.Z g ∧ p.w.cell? ⟨g, o, none⟩ = some v
theorem RP.le {p q : Piece} {g o : Nat} {v : Value} (h : RP p g o v) (hl : p.Le q) : RP q g o v := ⟨(hl g h.1).1, (World.cell?_of_block (w := p.w) (a := ⟨g, o, none⟩) (hl g h.1).2).trans h.2⟩
theorem RP.rd {w0 : World} {R : List Piece} {H : List HP} {p : Piece} {g o : Nat} {v : Value} (h : RP p g o v) (hp : p ∈ R) : Rd w0 R H g o v := Rd.ro hp h.1 h.2
theorem Iter.le {P : Program} {g : FuncId} {lb : List Value} {encs : List (List Value)} {p q : Piece} (h : Iter P g lb encs p) (hl : p.Le q) : Iter P g lb encs q := fun l J Jx W F hq hd => h l J Jx W F (fun b hb => ⟨(hq b (hl b hb).1).1, ((hq b (hl b hb).1).2).trans (hl b hb).2⟩) (fun b hb => hd b (hl b hb).1)
theorem filter_next {α : Type} {l : List α} {s : α → Bool} {k : Nat} {x : α} (hx : l[k]? = some x) (hs : s x = true) : (l.filter s)[((l.take k).filter s).length]? = some x ∧ ((l.take (k + 1)).filter s).length = ((l.take k).filter s).length + 1 := by
  have h1 : l.take (k + 1) = l.take k ++ [x] := by rw [List.take_add_one, hx]; rfl
  have h2 : l = l.take k ++ x :: l.drop (k + 1) := by
    have hlt := (List.getElem?_eq_some_iff.1 hx).1
    have hv := (List.getElem?_eq_some_iff.1 hx).2
    rw [← hv, List.getElem_cons_drop hlt, List.take_append_drop]
  refine ⟨?_, by rw [h1, List.filter_append]; simp [hs]⟩
  have h3 : l.filter s = (l.take k).filter s ++ (x :: l.drop (k + 1)).filter s := by rw [← List.filter_append, ← h2]
  rw [h3, List.getElem?_append_right (Nat.le_refl _), Nat.sub_self, List.filter_cons_of_pos hs]
  rfl
theorem filter_skip {α : Type} {l : List α} {s : α → Bool} {k : Nat} {x : α} (hx : l[k]? = some x) (hs : s x = false) : ((l.take (k + 1)).filter s).length = ((l.take k).filter s).length := by
  rw [List.take_add_one, hx, Option.toList_some, List.filter_append]
  simp [hs]
end Go.Proofs.YtbgibbbggajgaaaGreat
/- slices: Clone, Reverse. -/
namespace Go.Proofs.YtbgibbbggajgaaaGreat
set_option linter.all false
open Go.RowKit
section
variable {P : Program} {N : Nat} {w0 : World} {e : Env} {R : List Piece} {H : List HP} {Q : Exit → Act → World → Prop} {ops : Array Oper} {rest : List Oper}
variable {d : Nat} {ty : TypeId} {pos : String} {aft : Array Edge}
theorem xk_slice0 {t el : TypeId} {sz : Nat} (ht : P.underlying t = some (.slice el)) (hsz : (P.info? el).map (·.size) = some sz) (hd : d < N)
    (k : ∀ g, XK N w0 (wpList P ops Q rest) ((d, .slice (some ⟨g, 0, none⟩) 0 0) :: e) R (HP.blk g el [] :: H)) : XK N w0 (wpList P ops Q (⟨some d, .buildSlice t 0 #[], ty, pos, aft, none⟩ :: rest)) e R H :=
  xk_buildSlice (ps := []) (vs := []) rfl (fun w => by
    obtain ⟨i, hi, hs⟩ := Option.map_eq_some_iff.1 hsz
    simp [Instr.buildSlice, Sem.run_bind, run_underlying ht, Result.andThen_ok, sizeOf, typeInfo, hi, newRow, Instr.fill]
    congr 2
    exact Array.eq_empty_of_size_eq_zero (by simp)) hd k
end
/-- the first k, and the last k, have changed places -/
def RevTo (xs : List Value) (k : Nat) (l : List Value) : Prop := l.length = xs.length ∧ ∀ t, t < xs.length → l[t]? = if t < k ∨ xs.length - k ≤ t then xs[xs.length - 1 - t]? else xs[t]?
theorem RevTo.zero (xs : List Value) : RevTo xs 0 xs := ⟨rfl, fun t ht => by rw [if_neg (by omega)]⟩
theorem RevTo.all {xs l : List Value} {k : Nat} (h : RevTo xs k l) (hk : xs.length ≤ 2 * k + 1) : l = xs.reverse := by
  apply List.ext_getElem?
  intro t
  rcases Nat.lt_or_ge t xs.length with ht | ht
  · rw [h.2 t ht, List.getElem?_reverse ht]
    split
    · rfl
    · congr 1; omega
  · rw [List.getElem?_eq_none (by rw [h.1]; exact ht), List.getElem?_eq_none (by simpa using ht)]
theorem RevTo.next {xs l : List Value} {k : Nat} {u v : Value} (h : RevTo xs k l) (hk : 2 * k + 1 < xs.length) (hu : l[xs.length - 1 - k]? = some u) (hv : l[k]? = some v) : RevTo xs (k + 1) ((l.set k u).set (xs.length - 1 - k) v) := by
  have h1 := h.2 k (by omega)
  have h2 := h.2 (xs.length - 1 - k) (by omega)
  rw [if_neg (by omega), hv] at h1
  rw [if_neg (by omega), hu] at h2
  refine ⟨by simpa using h.1, fun t ht => ?_⟩
  have hl := h.1
  rw [List.getElem?_set, List.getElem?_set]
  by_cases e1 : xs.length - 1 - k = t
  · rw [if_pos e1, if_pos (by simp; omega), if_pos (by omega), show xs.length - 1 - t = k by omega]
    exact h1
  · rw [if_neg e1]
    by_cases e2 : k = t
    · rw [if_pos e2, if_pos (by omega), if_pos (by omega), ← e2]
      exact h2
    · rw [if_neg e2, h.2 t ht]
      by_cases e3 : t < k ∨ xs.length - k ≤ t
      · rw [if_pos e3, if_pos (by omega)]
      · rw [if_neg e3, if_neg (by omega)]
end Go.Proofs.YtbgibbbggajgaaaGreat
/- The reference's graphs of a chip. -/
namespace Go.Proofs.YtbgibbbggajgaaaGreat
set_option linter.all false
open Go.RowKit
theorem GrS.ofOwn {q q2 : Piece} {g : List (List Int)} {vs : List Value} {A : Option Addr} {n c : Nat} (h : Rows (LstR (slq q)) 1 g (vs.map fun v => [v])) (hl : q.Le q2) (h1 : ∃ F, (HP.own 22 1 (.slice A n c) n vs).sat F q2.w ∧ ∀ b, F b → q2.Z b) (hn : n = g.length) : GrS q2 A n g := by
  obtain ⟨F, hs, hz⟩ := h1
  refine ⟨_, h.mono (fun _ _ => LstR.mono (slq_le hl)), hn, ?_⟩
  rw [show (vs.map fun v => [v]).flatten = vs by clear h hs; induction vs <;> simp_all]
  obtain ⟨A', c', e, hS⟩ := SlS.of_own (Y := q2.Z) hs hz
  injection e with e1 e2 e3
  subst e1
  exact hS

theorem refClocks_any (s : Soc) (A1 A2 A3 A4 : Option Addr) (n1 k1 n2 k2 n3 k3 n4 k4 : Nat) (w : World) (hW : SocW w s A1 n1 A2 n2 A3 n3 A4 n4) :
    Calls Tryz.prog 58 #[.agg #[.slice A1 n1 k1, .slice A2 n2 k2, .slice A3 n3 k3, .slice A4 n4 k4]] w (fun y w' => (∃ v, y = .returned v ∧ GrOk (clocksG s) v w w') ∧ Below w.heap.size w w') := by
  have hn := hW.len1
  have hsm := hW.small
  unfold Soc.small at hsm
  obtain ⟨hs1, hs2, hs3, hs4, hs5, hs6⟩ := hsm
  refine XK.enter (vs := [.agg #[.slice A1 n1 k1, .slice A2 n2 k2, .slice A3 n3 k3, .slice A4 n4 k4]]) Tryz.func58 rfl Tryz.ntmps58 (by simp) ?_
  refine XK.seq ?_

  refine XK.region ?_
  refine xk_box rfl (by decide) fun g1 => ?_
  refine xk_assign rfl (by decide) ?_
  refine XK.nilN ?_
  refine XK.seq ?_

  refine XK.region ?_
  refine xk_assign rfl (by decide) ?_
  refine XK.nilN ?_
  refine XK.seq ?_
  refine XK.seq ?_

  refine XK.region ?_
  refine xk_assign rfl (by decide) ?_
  refine XK.nilN ?_
  refine XK.envS [(4, .int .i64 0), (3, .slice none 0 0), (1, .pointer (some ⟨g1, 0, none⟩))] ?_
  refine XK.nilrow 22 1 ?_
  refine XK.still [] [] [0, 1] (by simp) rfl (by decide) (by decide) fun q0 _ _ hfr0 => ?_
  refine XK.block ?_
  refine XK.loop (fun m e R H => ∃ (k : Nat) (vs : List Value) (q : Piece) (Ag : Option Addr) (cg : Nat), k ≤ n1 ∧ m = n1 - k ∧ Fresh w q ∧ Rows (LstR (slq q)) 1 ((clocksG s).take k) (vs.map fun v => [v]) ∧ e = [(4, .int .i64 k), (3, .slice Ag k cg), (1, .pointer (some ⟨g1, 0, none⟩))] ∧ R = [q, all w] ∧ H = [HP.own 22 1 (.slice Ag k cg) k vs, HP.blk g1 30 [.slice A1 n1 k1, .slice A2 n2 k2, .slice A3 n3 k3, .slice A4 n4 k4]]) n1 ⟨0, [], _, none, 0, by omega, rfl, hfr0 (by simp) (by simp), trivial, rfl, rfl, rfl⟩ fun m e R H hI => ?_
  obtain ⟨k, vs, q, Ag, cg, hk, rfl, hfq, hrows, rfl, rfl, rfl⟩ := hI
  refine XK.seq ?_
  refine XK.seq ?_

  refine XK.region ?_
  refine xk_move rfl (by decide) ?_
  refine xk_field (off := 0) (by kernel_rfl) rfl (by decide) ?_
  refine xk_ld rfl ?_
  refine xk_len (el := 87) (by kernel_rfl) rfl (by decide) ?_
  refine xk_lss rfl rfl (by decide) ?_
  refine XK.nilN ?_
  refine XK.if_ rfl (fun h => ?_) (fun h => ?_)
  ·
    refine XK.skip ?_
    refine XK.norm ?_
    refine XK.seq ?_
    refine XK.block ?_
    have hkn : k < s.clocks.length := by omega
    obtain ⟨e, he⟩ : ∃ e, s.clocks[k]? = some e := ⟨_, List.getElem?_eq_getElem hkn⟩
    obtain ⟨b, off, r, rfl, hrl, hR, hro⟩ := hW.clk.row he
    obtain ⟨Af, nf, kf, rfl, hnf, hsf⟩ := hR
    have hgk : (clocksG s)[k]? = some (e.src) := by simp [clocksG, he]

    refine XK.region ?_
    refine xk_move rfl (by decide) ?_
    refine xk_slice0 (el := 3) (sz := 1) (by kernel_rfl) (by kernel_rfl) (by decide) fun g4 => ?_
    refine XK.asOwn 0 1 0 rfl rfl (by omega) ?_
    dsimp only [List.set]
    refine xk_field (off := 0) (by kernel_rfl) rfl (by decide) ?_
    refine xk_ld rfl ?_
    refine xk_move rfl (by decide) ?_
    refine xk_at k (off + k * 6) (el := 87) (sz := 6) (by kernel_rfl) (by kernel_rfl) rfl rfl (by omega) (by omega) (by omega) (by decide) ?_
    refine xk_field (off := 1) (by kernel_rfl) rfl (by decide) ?_
    refine xk_load (by kernel_rfl) rfl (Rd.roc (by simp) (hro.at_ (j := 1) rfl)) (by decide) ?_
    refine xk_appendT 0 1 8 nf (n' := nf) (el := 3) (by kernel_rfl) (by kernel_rfl) (by decide) rfl rfl rfl (sl_ro (p := all w) (by simp) hsf) (by simp [intCells, Value.oneCell']) (by omega) (by have := hs5 e (List.mem_of_getElem? he); omega) (by have := hs5 e (List.mem_of_getElem? he); omega) (by decide) fun A5 c5 => ?_
    dsimp only [List.set, List.nil_append]
    refine xk_slice (el := 22) (sz := 1) (zs := [.slice none 0 0]) (by kernel_rfl) (zeroB_of (by kernel_rfl)) (by kernel_rfl) rfl (by decide) (by decide) rfl (by simp [fillL, setN, Value.cells, List.range_succ, List.set]; rfl) (by decide) fun g3 => ?_
    refine xk_appendT 2 1 24 1 (n' := k + 1) (el := 22) (by kernel_rfl) (by kernel_rfl) (by decide) rfl rfl rfl (sl_blk 0 rfl rfl) (by simp [Value.oneCell']) rfl (by omega) (by omega) (by decide) fun A6 c6 => ?_
    dsimp only [List.set]
    refine xk_assign rfl (by decide) ?_
    refine XK.nilN ?_

    refine XK.region ?_
    refine xk_move rfl (by decide) ?_
    refine xk_add rfl rfl (wrap_in (by omega)) (by decide) ?_
    refine xk_assign rfl (by decide) ?_
    refine XK.nilN ?_
    refine XK.still [q] [1] [2, 3] (by simp) rfl (by decide) (by decide) fun q' hq' hle hfr' => ?_
    obtain ⟨Fg, hsg, hzg⟩ := hq' 1 _ (by simp) rfl
    obtain ⟨A7, c7, e7, hso⟩ := SlS.of_own (Y := q'.Z) hsg hzg
    injection e7 with f1 f2 f3
    subst f1
    exact XK.weak [0, 1] rfl (by decide) (by simp) (XK.envS [(4, .int .i64 (k + 1)), (3, .slice A6 (k + 1) c6), (1, .pointer (some ⟨g1, 0, none⟩))] (XK.round (n1 - (k + 1)) (by omega) ⟨k + 1, vs ++ [_], q', A6, c6, by omega, rfl, hfr' (by simp) (by simpa using hfq), rows_next hrows (hle q (by simp)) hgk ⟨A5, nf, c5, rfl, hnf, hso⟩, rfl, rfl, rfl⟩))
  ·
    refine XK.exit ?_
    refine XK.norm ?_
    refine XK.seq ?_
    obtain rfl : k = n1 := by omega
    rw [List.take_of_length_le (by simp [clocksG]; omega)] at hrows

    refine XK.region ?_
    refine xk_move rfl (by decide) ?_
    refine xk_assign rfl (by decide) ?_
    refine XK.nilN ?_
    refine XK.ret ?_
    refine XK.norm ?_
    refine XK.still [q] [0] [] (by simp) rfl (by decide) (by decide) fun q2 hq hle hfr => ?_
    have hgl : k = (clocksG s).length := by simp [clocksG]; omega
    exact XK.ret1 rfl rfl fun w1 st => ⟨⟨_, rfl, Ag, cg, by rw [← hgl], by rw [← hgl]; exact (GrS.ofOwn hrows (hle q (by simp)) (hq 0 _ (by simp) rfl) hgl).le (st.fresh_le (by simp) (hfr (by simp) (by simpa using hfq)))⟩, st.below (by simp)⟩

theorem refDoms_any (s : Soc) (A1 A2 A3 A4 : Option Addr) (n1 k1 n2 k2 n3 k3 n4 k4 : Nat) (w : World) (hW : SocW w s A1 n1 A2 n2 A3 n3 A4 n4) :
    Calls Tryz.prog 57 #[.agg #[.slice A1 n1 k1, .slice A2 n2 k2, .slice A3 n3 k3, .slice A4 n4 k4]] w (fun y w' => (∃ v, y = .returned v ∧ GrOk (domsG s) v w w') ∧ Below w.heap.size w w') := by
  have hn := hW.len2
  have hsm := hW.small
  unfold Soc.small at hsm
  obtain ⟨hs1, hs2, hs3, hs4, hs5, hs6⟩ := hsm
  refine XK.enter (vs := [.agg #[.slice A1 n1 k1, .slice A2 n2 k2, .slice A3 n3 k3, .slice A4 n4 k4]]) Tryz.func57 rfl Tryz.ntmps57 (by simp) ?_
  refine XK.seq ?_

  refine XK.region ?_
  refine xk_box rfl (by decide) fun g1 => ?_
  refine xk_assign rfl (by decide) ?_
  refine XK.nilN ?_
  refine XK.seq ?_

  refine XK.region ?_
  refine xk_assign rfl (by decide) ?_
  refine XK.nilN ?_
  refine XK.seq ?_
  refine XK.seq ?_

  refine XK.region ?_
  refine xk_assign rfl (by decide) ?_
  refine XK.nilN ?_
  refine XK.envS [(4, .int .i64 0), (3, .slice none 0 0), (1, .pointer (some ⟨g1, 0, none⟩))] ?_
  refine XK.nilrow 22 1 ?_
  refine XK.still [] [] [0, 1] (by simp) rfl (by decide) (by decide) fun q0 _ _ hfr0 => ?_
  refine XK.block ?_
  refine XK.loop (fun m e R H => ∃ (k : Nat) (vs : List Value) (q : Piece) (Ag : Option Addr) (cg : Nat), k ≤ n2 ∧ m = n2 - k ∧ Fresh w q ∧ Rows (LstR (slq q)) 1 ((domsG s).take k) (vs.map fun v => [v]) ∧ e = [(4, .int .i64 k), (3, .slice Ag k cg), (1, .pointer (some ⟨g1, 0, none⟩))] ∧ R = [q, all w] ∧ H = [HP.own 22 1 (.slice Ag k cg) k vs, HP.blk g1 30 [.slice A1 n1 k1, .slice A2 n2 k2, .slice A3 n3 k3, .slice A4 n4 k4]]) n2 ⟨0, [], _, none, 0, by omega, rfl, hfr0 (by simp) (by simp), trivial, rfl, rfl, rfl⟩ fun m e R H hI => ?_
  obtain ⟨k, vs, q, Ag, cg, hk, rfl, hfq, hrows, rfl, rfl, rfl⟩ := hI
  refine XK.seq ?_
  refine XK.seq ?_

  refine XK.region ?_
  refine xk_move rfl (by decide) ?_
  refine xk_field (off := 1) (by kernel_rfl) rfl (by decide) ?_
  refine xk_ld rfl ?_
  refine xk_len (el := 89) (by kernel_rfl) rfl (by decide) ?_
  refine xk_lss rfl rfl (by decide) ?_
  refine XK.nilN ?_
  refine XK.if_ rfl (fun h => ?_) (fun h => ?_)
  ·
    refine XK.skip ?_
    refine XK.norm ?_
    refine XK.seq ?_
    refine XK.block ?_
    refine XK.seq ?_
    have hkn : k < s.domains.length := by omega
    obtain ⟨e, he⟩ : ∃ e, s.domains[k]? = some e := ⟨_, List.getElem?_eq_getElem hkn⟩
    obtain ⟨b, off, r, rfl, hrl, hR, hro⟩ := hW.dom.row he
    obtain rfl := hR
    have hgk : (domsG s)[k]? = some (if e.above = -1 then [] else [e.above]) := by simp [domsG, he]

    refine XK.region ?_
    refine xk_assign rfl (by decide) ?_
    refine XK.nilN ?_
    refine XK.seq ?_
    refine XK.seq ?_

    refine XK.region ?_
    refine xk_field (off := 1) (by kernel_rfl) rfl (by decide) ?_
    refine xk_ld rfl ?_
    refine xk_move rfl (by decide) ?_
    refine xk_at k (off + k * 3) (el := 89) (sz := 3) (by kernel_rfl) (by kernel_rfl) rfl rfl (by omega) (by omega) (by omega) (by decide) ?_
    refine xk_field (off := 0) (by kernel_rfl) rfl (by decide) ?_
    refine xk_load (by kernel_rfl) rfl (Rd.roc (by simp) (hro.at_ (j := 0) rfl)) (by decide) ?_
    refine xk_neq rfl rfl (by decide) ?_
    refine XK.nilN ?_
    refine XK.if_ rfl (fun hab => ?_) (fun hab => ?_)
    ·
      refine XK.nilrow 3 1 ?_

      refine XK.region ?_
      refine xk_move rfl (by decide) ?_
      refine xk_field (off := 1) (by kernel_rfl) rfl (by decide) ?_
      refine xk_ld rfl ?_
      refine xk_move rfl (by decide) ?_
      refine xk_at k (off + k * 3) (el := 89) (sz := 3) (by kernel_rfl) (by kernel_rfl) rfl rfl (by omega) (by omega) (by omega) (by decide) ?_
      refine xk_field (off := 0) (by kernel_rfl) rfl (by decide) ?_
      refine xk_load (by kernel_rfl) rfl (Rd.roc (by simp) (hro.at_ (j := 0) rfl)) (by decide) ?_
      refine xk_slice (el := 3) (sz := 1) (zs := [.int .i64 0]) (by kernel_rfl) (zeroB_of (by kernel_rfl)) (by kernel_rfl) rfl (by decide) (by decide) rfl (by simp [fillL, setN, Value.cells, List.range_succ, List.set]; rfl) (by decide) fun g2 => ?_
      refine xk_appendT 1 1 8 1 (n' := 1) (v := .slice none 0 0) (el := 3) (by kernel_rfl) (by kernel_rfl) (by decide) rfl rfl rfl (sl_blk 0 rfl rfl) (by simp [Value.oneCell']) rfl (by omega) (by omega) (by decide) fun A5 c5 => ?_
      dsimp only [List.set, List.nil_append]
      refine xk_assign rfl (by decide) ?_
      refine XK.nilN ?_

      refine XK.region ?_
      refine xk_move rfl (by decide) ?_
      refine xk_move rfl (by decide) ?_
      refine xk_slice (el := 22) (sz := 1) (zs := [.slice none 0 0]) (by kernel_rfl) (zeroB_of (by kernel_rfl)) (by kernel_rfl) rfl (by decide) (by decide) rfl (by simp [fillL, setN, Value.cells, List.range_succ, List.set]; rfl) (by decide) fun g3 => ?_
      refine xk_appendT 3 1 24 1 (n' := k + 1) (el := 22) (by kernel_rfl) (by kernel_rfl) (by decide) rfl rfl rfl (sl_blk 0 rfl rfl) (by simp [Value.oneCell']) rfl (by omega) (by omega) (by decide) fun A6 c6 => ?_
      dsimp only [List.set]
      refine xk_assign rfl (by decide) ?_
      refine XK.nilN ?_

      refine XK.region ?_
      refine xk_move rfl (by decide) ?_
      refine xk_add rfl rfl (wrap_in (by omega)) (by decide) ?_
      refine xk_assign rfl (by decide) ?_
      refine XK.nilN ?_
      refine XK.still [q] [2] [3, 4] (by simp) rfl (by decide) (by decide) fun q' hq' hle hfr' => ?_
      obtain ⟨Fg, hsg, hzg⟩ := hq' 2 _ (by simp) rfl
      obtain ⟨A7, c7, e7, hso⟩ := SlS.of_own (Y := q'.Z) hsg hzg
      injection e7 with f1 f2 f3
      subst f1
      exact XK.weak [0, 1] rfl (by decide) (by simp) (XK.envS [(4, .int .i64 (k + 1)), (3, .slice A6 (k + 1) c6), (1, .pointer (some ⟨g1, 0, none⟩))] (XK.round (n2 - (k + 1)) (by omega) ⟨k + 1, vs ++ [_], q', A6, c6, by omega, rfl, hfr' (by simp) (by simpa using hfq), rows_next hrows (hle q (by simp)) hgk (by rw [if_neg hab]; exact ⟨A5, 1, c5, rfl, rfl, hso⟩), rfl, rfl, rfl⟩))
    ·
      refine XK.skip ?_
      refine XK.norm ?_

      refine XK.region ?_
      refine xk_move rfl (by decide) ?_
      refine xk_move rfl (by decide) ?_
      refine xk_slice (el := 22) (sz := 1) (zs := [.slice none 0 0]) (by kernel_rfl) (zeroB_of (by kernel_rfl)) (by kernel_rfl) rfl (by decide) (by decide) rfl (by simp [fillL, setN, Value.cells, List.range_succ, List.set]; rfl) (by decide) fun g4 => ?_
      refine xk_appendT 1 1 24 1 (n' := k + 1) (el := 22) (by kernel_rfl) (by kernel_rfl) (by decide) rfl rfl rfl (sl_blk 0 rfl rfl) (by simp [Value.oneCell']) rfl (by omega) (by omega) (by decide) fun A6 c6 => ?_
      dsimp only [List.set]
      refine xk_assign rfl (by decide) ?_
      refine XK.nilN ?_

      refine XK.region ?_
      refine xk_move rfl (by decide) ?_
      refine xk_add rfl rfl (wrap_in (by omega)) (by decide) ?_
      refine xk_assign rfl (by decide) ?_
      refine XK.nilN ?_
      exact XK.weak [1, 2] rfl (by decide) (by simp) (XK.envS [(4, .int .i64 (k + 1)), (3, .slice A6 (k + 1) c6), (1, .pointer (some ⟨g1, 0, none⟩))] (XK.round (n2 - (k + 1)) (by omega) ⟨k + 1, vs ++ [_], q, A6, c6, by omega, rfl, hfq, rows_next hrows (fun b hb => ⟨hb, rfl⟩) hgk (by rw [if_pos (Classical.not_not.1 hab)]; exact ⟨_, 0, 0, rfl, rfl, SlS.nil _ 1⟩), rfl, rfl, rfl⟩))
  ·
    refine XK.exit ?_
    refine XK.norm ?_
    refine XK.seq ?_
    obtain rfl : k = n2 := by omega
    rw [List.take_of_length_le (by simp [domsG]; omega)] at hrows

    refine XK.region ?_
    refine xk_move rfl (by decide) ?_
    refine xk_assign rfl (by decide) ?_
    refine XK.nilN ?_
    refine XK.ret ?_
    refine XK.norm ?_
    refine XK.still [q] [0] [] (by simp) rfl (by decide) (by decide) fun q2 hq hle hfr => ?_
    have hgl : k = (domsG s).length := by simp [domsG]; omega
    exact XK.ret1 rfl rfl fun w1 st => ⟨⟨_, rfl, Ag, cg, by rw [← hgl], by rw [← hgl]; exact (GrS.ofOwn hrows (hle q (by simp)) (hq 0 _ (by simp) rfl) hgl).le (st.fresh_le (by simp) (hfr (by simp) (by simpa using hfq)))⟩, st.below (by simp)⟩

end Go.Proofs.YtbgibbbggajgaaaGreat
/- A graph in which all sources are lesser ones: its order is 0, 1, 2, .. No program in sight. -/
namespace Go.Proofs.YtbgibbbggajgaaaGreat
set_option linter.all false
def LessG (g : List (List Int)) : Prop := ∀ (k : Nat) (l : List Int), g[k]? = some l → ∀ u ∈ l, 0 ≤ u ∧ u < (k : Int)
theorem LessG.in {g : List (List Int)} (h : LessG g) : InG g := by
  intro l hl u hu
  obtain ⟨k, hk⟩ := List.getElem?_of_mem hl
  have := h k l hk u hu
  have := (List.getElem?_eq_some_iff.1 hk).1
  omega
theorem LessG.next {g : List (List Int)} (h : LessG g) {k : Nat} (hk : k < g.length) : nextG g (List.range k) = some k := by
  refine nextG_some hk (fun j hj => okN_met (by simpa using hj)) ?_
  unfold okN
  obtain ⟨l, hl⟩ : ∃ l, g[k]? = some l := ⟨_, List.getElem?_eq_getElem hk⟩
  rw [hl]
  simp only [Option.getD_some, Bool.and_eq_true, Bool.not_eq_true', List.all_eq_true]
  refine ⟨by simp, fun u hu => ?_⟩
  have := h k l hl u hu
  simp; omega
theorem LessG.order {g : List (List Int)} (h : LessG g) : ∀ (m k : Nat), k + m = g.length → orderG g m (List.range k) = some (List.range g.length)
  | 0, k, hk => by rw [orderG]; simp at hk; rw [hk]
  | m + 1, k, hk => by
    rw [orderG, h.next (by omega)]
    have := LessG.order h m (k + 1) (by omega)
    rw [List.range_succ] at this
    exact this
theorem LessG.orderE {g : List (List Int)} (h : LessG g) (hl : g.length ≤ 100) : orderE g = (0, List.range g.length) := by
  have h1 : badG g = false := badG_no fun k l hk j u hj => by
    have := h.in l (List.mem_of_getElem? hk) u (List.mem_of_getElem? hj)
    exact this
  have h2 : numbersG g = 0 := by unfold numbersG; rw [if_neg (by omega), h1]; rfl
  have h3 := h.order g.length 0 (by omega)
  unfold Go.Proofs.YtbgibbbggajgaaaGreat.orderE
  rw [if_neg (by simp [h2])]
  simp only [List.range_zero] at h3
  rw [h3]
end Go.Proofs.YtbgibbbggajgaaaGreat
/- A region that draws its order, in a round: what comes up in any order, and then the rest, one behind the other. -/
namespace Go.Proofs.YtbgibbbggajgaaaGreat
set_option linter.all false
open Go.RowKit

def edgesB (ops : Array Oper) : Bool := (List.range ops.size).all fun j => match ops[j]? with
  | some o => o.after.toList.all fun x => !(Region.binds .any x) || decide (x.on < j)
  | none => true
def guardsB (l : List Oper) (m : Nat) : Bool := (l.take m).all fun o => match o.guard with
  | some (j, _) => decide (j < m)
  | none => true
theorem edges_lt {ops : Array Oper} (h : edgesB ops = true) {j : Nat} {o : Oper} (ho : ops[j]? = some o) : ∀ x ∈ o.after, Region.binds .any x = true → x.on < j := fun x hx hb => by
  have hj := (Array.getElem?_eq_some_iff.1 ho).1
  unfold edgesB at h
  simp only [List.all_eq_true, List.mem_range] at h
  have := h j hj
  rw [ho] at this
  simp only [List.all_eq_true] at this
  have := this x (by simpa using hx)
  simpa [hb] using this
theorem getD_tf {l : Array Bool} {i : Nat} (h : i < l.size) : l.getD i true = l.getD i false := by simp [h]
/-- all ahead of number k are listed, and no more -/
def Upto (k : Nat) (listed : Array Bool) : Prop := (∀ i, i < k → listed.getD i false = true) ∧ ∀ i, k ≤ i → listed.getD i false = false
theorem ready_upto {ops : Array Oper} {k : Nat} {listed : Array Bool} (hE : edgesB ops = true) (hd : Down ops listed) (hk : k < ops.size) (ht : ∀ j, k ≤ j → j < ops.size → tailB ops j = true) (hsz : listed.size = ops.size) (hu : Upto k listed) : k ∈ Region.ready .any ops listed ∧ ∀ i ∈ Region.ready .any ops listed, i = k := by
  constructor
  · refine mem_ready.2 ⟨?_, _, Array.getElem?_eq_getElem hk, fun x hx hb => hu.1 _ (edges_lt hE (Array.getElem?_eq_getElem hk) x hx hb)⟩
    rw [getD_tf (by omega)]
    exact hu.2 k (Nat.le_refl _)
  · intro i hi
    obtain ⟨h1, o, ho, h2⟩ := mem_ready.1 hi
    have hlt := (Array.getElem?_eq_some_iff.1 ho).1
    rw [getD_tf (by omega)] at h1
    rcases Nat.lt_trichotomy i k with h | h | h
    · rw [hu.1 i h] at h1; cases h1
    · exact h
    · have := tail_listed hd hi (ht i (by omega) hlt) h
      rw [hu.2 k (Nat.le_refl _)] at this; cases this
theorem Upto.next {k : Nat} {listed : Array Bool} (h : Upto k listed) (hk : k < listed.size) : Upto (k + 1) (listed.setIfInBounds k true) := by
  refine ⟨fun i hi => ?_, fun i hi => ?_⟩
  · by_cases e : k = i
    · subst e; simp [hk]
    · rw [getD_set_ne false e]; exact h.1 i (by omega)
  · rw [getD_set_ne false (by omega)]; exact h.2 i (by omega)
section
variable {P : Program} {N : Nat} {w0 : World} {e : Env} {R : List Piece} {H : List HP} {Q : Exit → Act → World → Prop} {r : Option Nat} {L : List Nat}
theorem tail_sound {ops : Array Oper} (hE : edgesB ops = true) : ∀ (fuel k : Nat) (listed : Array Bool) (a : Act) (w : World), k ≤ ops.size → ops.size ≤ k + fuel → Down ops listed → (∀ j, k ≤ j → j < ops.size → tailB ops j = true) → listed.size = ops.size → Upto k listed →
    wpListIn (Fr r) 9 P ops Q (ops.toList.drop k) a w → wpAnyIn (Fr r) 9 P .any ops Q fuel listed a w := by
  have none : ∀ (k : Nat) (listed : Array Bool), k = ops.size → listed.size = ops.size → Upto k listed → Region.ready .any ops listed = [] := by
    intro k listed hk hsz hu
    cases hr : Region.ready .any ops listed with
    | nil => rfl
    | cons i is =>
      exfalso
      obtain ⟨h1, o, ho, _⟩ := mem_ready.1 (by rw [hr]; simp : i ∈ Region.ready .any ops listed)
      have hlt := (Array.getElem?_eq_some_iff.1 ho).1
      rw [getD_tf (by omega), hu.1 i (by omega)] at h1
      cases h1
  intro fuel
  induction fuel with
  | zero =>
    intro k listed a w hk hk2 hd ht hsz hu h
    rw [List.drop_eq_nil_of_le (by simp; omega)] at h
    exact ⟨none k listed (by omega) hsz hu, h⟩
  | succ fuel ih =>
    intro k listed a w hk hk2 hd ht hsz hu h
    by_cases hkn : k < ops.size
    · obtain ⟨h1, h2⟩ := ready_upto hE hd hkn ht hsz hu
      refine ⟨fun hn => absurd h1 (by rw [hn]; simp), fun i hi => ?_⟩
      have := h2 i hi
      subst this
      have hget : ops[i]? = some (ops[i]'hkn) := Array.getElem?_eq_getElem hkn
      have hdrop : ops.toList.drop i = ops[i]'hkn :: ops.toList.drop (i + 1) := by
        rw [← List.getElem_cons_drop (by simpa using hkn)]; simp
      rw [hdrop] at h
      unfold wpListIn at h
      unfold wpOpIn
      rw [hget]
      have key : ∀ a w, wpListIn (Fr r) 9 P ops Q (ops.toList.drop (i + 1)) a w → wpAnyIn (Fr r) 9 P .any ops Q fuel (listed.setIfInBounds i true) a w := fun a w h => ih (i + 1) _ a w (by omega) (by omega) (hd.set_ hi) (fun j hj => ht j (by omega)) (by simpa using hsz) (hu.next (by omega)) h
      dsimp only
      split
      · rename_i hw
        rw [if_pos hw] at h
        exact Oper.wpIn_mono key h
      · rename_i hw
        rw [if_neg hw] at h
        exact ⟨h.1, key _ _ h.2⟩
    · rw [List.drop_eq_nil_of_le (by simp; omega)] at h
      have hn := none k listed (by omega) hsz hu
      exact ⟨fun _ => h, fun i hi => by rw [hn] at hi; cases hi⟩
/-- the first m, by themselves -/
structure Rel (ops : Array Oper) (m : Nat) (listed l' : Array Bool) : Prop where
  lo : ∀ i, i < m → listed.getD i false = l'.getD i false
  hi : ∀ i, m ≤ i → listed.getD i false = false
  s1 : listed.size = ops.size
  s2 : l'.size = m
  le : m ≤ ops.size
theorem Rel.set_ {ops : Array Oper} {m i : Nat} {listed l' : Array Bool} (h : Rel ops m listed l') (hi : i < m) : Rel ops m (listed.setIfInBounds i true) (l'.setIfInBounds i true) := by
  have hle := h.le
  have hs := h.s1
  have hs2 := h.s2
  refine ⟨fun j hj => ?_, fun j hj => ?_, by simpa using h.s1, by simpa using h.s2, h.le⟩
  · by_cases e : i = j
    · subst e
      have h1 : i < l'.size := by omega
      have h2 : i < listed.size := by omega
      simp [h1, h2]
    · rw [getD_set_ne false e, getD_set_ne false e]; exact h.lo j hj
  · rw [getD_set_ne false (by omega)]; exact h.hi j hj
theorem wp_fx {o : Oper} {a : Act} {w : World} {K K1 K2 : Act → World → Prop} (h : o.wp P a w K (Fx K1)) : o.wp P a w K (Fx K2) := by
  unfold Oper.wp at h ⊢
  generalize (execOp a.eval o).run P w = res at h ⊢
  cases res with
  | ok n w' => cases n <;> first | exact h | exact Calls.mono h (fun x w'' hx => by cases x <;> first | exact hx | exact hx.elim | (obtain ⟨_, _, hf⟩ := hx; exact hf.elim))
  | halt x w' => cases x <;> exact h
theorem any_sound {l : List Oper} {m : Nat} (hm : m ≤ l.length) (hE : edgesB l.toArray = true) (hT : tlB l.toArray m = true) (hG : guardsB l m = true) (hp : (l.take m).all plainOp = true) :
    ∀ (fuel : Nat) (listed l' : Array Bool) (a : Act) (w : World), Rel l.toArray m listed l' → Down l.toArray listed → wpAny P .any (l.take m).toArray (Fx (KI r L P l.toArray Q (l.drop m))) fuel l' a w →
      wpAnyIn (Fr r) 9 P .any l.toArray Q (fuel + (l.length - m)) listed (mk L a) w := by
  have hget : ∀ i, i < m → (l.take m).toArray[i]? = l.toArray[i]? := fun i hi => by simp [List.getElem?_take, hi]
  have hready : ∀ {listed l' : Array Bool}, Rel l.toArray m listed l' → ∀ i, i < m → (i ∈ Region.ready .any l.toArray listed ↔ i ∈ Region.ready .any (l.take m).toArray l') := by
    intro listed l' hr i hi
    have hs1 := hr.s1
    have hs2 := hr.s2
    have hle := hr.le
    rw [mem_ready, mem_ready, getD_tf (l := listed) (by omega), getD_tf (l := l') (by omega), hr.lo i hi, hget i hi]
    constructor
    · rintro ⟨h1, o, ho, h2⟩
      exact ⟨h1, o, ho, fun x hx hb => by have := edges_lt hE ho x hx hb; rw [← hr.lo _ (by omega)]; exact h2 x hx hb⟩
    · rintro ⟨h1, o, ho, h2⟩
      exact ⟨h1, o, ho, fun x hx hb => by have := edges_lt hE ho x hx hb; rw [hr.lo _ (by omega)]; exact h2 x hx hb⟩
  have htl : ∀ j, m ≤ j → j < l.toArray.size → tailB l.toArray j = true := fun j hj hlt => by
    unfold tlB at hT
    simp only [List.all_eq_true, List.mem_range, Bool.or_eq_true, decide_eq_true_eq] at hT
    exact (hT j hlt).resolve_left (by omega)
  have hdone : ∀ {listed l' : Array Bool}, Rel l.toArray m listed l' → Region.ready .any (l.take m).toArray l' = [] → Upto m listed := by
    intro listed l' hr hn
    refine ⟨fun i => ?_, hr.hi⟩
    induction i using Nat.strongRecOn with
    | _ i ih =>
      intro hi
      cases hb : listed.getD i false with
      | true => rfl
      | false =>
        exfalso
        have hs1 := hr.s1
        have hle := hr.le
        have hil : i < l.toArray.size := by omega
        have : i ∈ Region.ready .any l.toArray listed := mem_ready.2 ⟨by rw [getD_tf (by omega)]; exact hb, _, Array.getElem?_eq_getElem hil, fun x hx hxb => by
          have := edges_lt hE (Array.getElem?_eq_getElem hil) x hx hxb
          exact ih x.on this (by omega)⟩
        rw [hready hr i hi, hn] at this
        cases this
  have fin : ∀ {fuel : Nat} {listed l' : Array Bool} {a : Act} {w : World}, Rel l.toArray m listed l' → Down l.toArray listed → Region.ready .any (l.take m).toArray l' = [] → KI r L P l.toArray Q (l.drop m) a w → wpAnyIn (Fr r) 9 P .any l.toArray Q (fuel + (l.length - m)) listed (mk L a) w := by
    intro fuel listed l' a w hr hd hn hk
    refine tail_sound hE _ m listed _ w (by simpa using hm) (by simp; omega) hd htl hr.s1 (hdone hr hn) ?_
    unfold KI at hk
    simpa using hk
  intro fuel
  induction fuel with
  | zero =>
    intro listed l' a w hr hd h
    exact fin hr hd h.1 h.2
  | succ fuel ih =>
    intro listed l' a w hr hd h
    cases hne : Region.ready .any (l.take m).toArray l' with
    | nil => exact fin hr hd hne (h.1 hne)
    | cons i0 is =>
      have hi0 : i0 ∈ Region.ready .any (l.take m).toArray l' := by rw [hne]; simp
      have hi0m : i0 < m := by
        obtain ⟨_, o, ho, _⟩ := mem_ready.1 hi0
        have := (Array.getElem?_eq_some_iff.1 ho).1
        simp at this
        omega
      have hi0l := (hready hr i0 hi0m).2 hi0
      rw [show fuel + 1 + (l.length - m) = (fuel + (l.length - m)) + 1 by omega]
      refine ⟨fun hn => absurd hi0l (by rw [hn]; simp), fun i hi => ?_⟩
      obtain ⟨h1, o, ho, _⟩ := mem_ready.1 hi
      have hlt := (Array.getElem?_eq_some_iff.1 ho).1
      by_cases him : i < m
      · have hi' := (hready hr i him).1 hi
        have h2 := h.2 i hi'
        unfold wpOp at h2
        unfold wpOpIn
        rw [hget i him, ho] at h2
        rw [ho]
        dsimp only at h2 ⊢
        have hwant : Region.wanted o (yielded l.toArray (mk L a).tmps) = Region.wanted o (yielded (l.take m).toArray a.tmps) := by
          show Region.wanted o (yielded l.toArray a.tmps) = _
          cases hgd : o.guard with
          | none => simp [Region.wanted, hgd]
          | some g =>
            obtain ⟨j, b⟩ := g
            have hj : j < m := by
              unfold guardsB at hG
              simp only [List.all_eq_true] at hG
              have hmem : o ∈ l.take m := by
                have : (l.take m)[i]? = some o := by simpa [List.getElem?_take, him] using ho
                exact List.mem_of_getElem? this
              have := hG o hmem
              rw [hgd] at this
              simpa using this
            simp only [Region.wanted, hgd, yielded, hget j hj]
        rw [hwant]
        have hpo : plainOp o = true := by
          simp only [List.all_eq_true] at hp
          have : (l.take m)[i]? = some o := by simpa [List.getElem?_take, him] using ho
          exact hp o (List.mem_of_getElem? this)
        have key : ∀ a' w', wpAny P .any (l.take m).toArray (Fx (KI r L P l.toArray Q (l.drop m))) fuel (l'.setIfInBounds i true) a' w' → wpAnyIn (Fr r) 9 P .any l.toArray Q (fuel + (l.length - m)) (listed.setIfInBounds i true) (mk L a') w' := fun a' w' hh => ih _ _ a' w' (hr.set_ him) (hd.set_ hi) hh
        split
        · rename_i hw
          rw [if_pos hw] at h2
          rcases h2 with h2 | ⟨_, _, _, h2⟩
          · exact operIn hpo key (wp_fx h2)
          · exact h2.elim
        · rename_i hw
          rw [if_neg hw] at h2
          refine ⟨fun _ _ => trivial, ?_⟩
          rw [mk_put]
          exact key _ _ h2
      · exfalso
        have := tail_listed hd hi (htl i (by omega) hlt) (show i0 < i by omega)
        obtain ⟨h3, _⟩ := mem_ready.1 hi0l
        have hs1 := hr.s1
        rw [getD_tf (by omega), this] at h3
        cases h3
/-- a region that draws its order: the first m in any order, the rest one behind the other -/
theorem XC.draw (m : Nat) {id : Nat} {l : List Oper} (hm : P.follows .mixedOrders = true) (hc : (Region.noSelect (l.take m).toArray && edgesB l.toArray && tlB l.toArray m && tlB (l.take m).toArray m && guardsB l m && (l.take m).all plainOp && decide (m ≤ l.length)) = true)
    (h : XA P N w0 (l.take m).toArray (Fx (KI r L P l.toArray Q (l.drop m))) R H m m (Array.replicate m false) e R H) : XK N w0 (KC r L P (Code.region id l.toArray true) Q) e R H := fun a w hr st => by
  simp only [Bool.and_eq_true, decide_eq_true_eq] at hc
  obtain ⟨⟨⟨⟨⟨⟨c1, c2⟩, c3⟩, c4⟩, c5⟩, c6⟩, c7⟩ := hc
  have h1 := h ⟨Down.start _ _, c1, c4⟩ a w.drew hr st.drew
  have h2 := any_sound (r := r) (L := L) (Q := Q) c7 c2 c3 c5 c6 m (Array.replicate l.length false) _ a w.drew ⟨fun i hi => by simp [hi, Nat.lt_of_lt_of_le hi c7], fun i hi => by simp [Array.getElem?_replicate]; split <;> rfl, by simp, by simp, by simpa using c7⟩ (Down.start _ _) (wpAny_of_x _ _ _ _ h1)
  unfold KC
  refine wpIn_region_any hm ?_
  rw [show m + (l.length - m) = l.length by omega] at h2
  simpa using h2
end
end Go.Proofs.YtbgibbbggajgaaaGreat
/- plan: what makes iterators; the iterator of steps. -/
namespace Go.Proofs.YtbgibbbggajgaaaGreat
set_option linter.all false
open Go.RowKit
attribute [local irreducible] KC KI KQ
/-- what a value function tells of each of them -/
def ValOk (p : Piece) (vid : FuncId) (vcap : List Value) (ids : List Nat) (val : Nat → Int) : Prop := ∀ i ∈ ids, ∀ w', p.Le (all w') → Calls Tryz.prog vid (Value.int .i64 (i : Int) :: vcap).toArray w' (Rt (.int .u32 (val i)) w')
theorem Piece.Le.trans' {p q r : Piece} (h : p.Le q) (k : q.Le r) : p.Le r := fun b hb => ⟨(k b (h b hb).1).1, (k b (h b hb).1).2.trans (h b hb).2⟩
theorem ValOk.le {p q : Piece} {vid : FuncId} {vcap : List Value} {ids : List Nat} {val : Nat → Int} (h : ValOk p vid vcap ids val) (hl : p.Le q) : ValOk q vid vcap ids val := fun i hi w' hq => h i hi w' (hl.trans' hq)
theorem RP.of_blk {q : Piece} {g o : Nat} {t : TypeId} {cs : List Value} {v : Value} (h : ∃ F, (HP.blk g t cs).sat F q.w ∧ ∀ b, F b → q.Z b) (hv : cs[o]? = some v) : RP q g o v := by
  obtain ⟨F, hs, hz⟩ := h
  refine ⟨hz g hs.1, ?_⟩
  have : Blk q.w g t cs.toArray := hs.2
  rw [this.cell]
  simpa using hv

end Go.Proofs.YtbgibbbggajgaaaGreat
/- plan: the iterator that goes through all rows of steps. -/
namespace Go.Proofs.YtbgibbbggajgaaaGreat
set_option linter.all false
open Go.RowKit
attribute [local irreducible] KC KI KQ
structure Stp where
  pr : Int
  msg : Int
  id : Int
  v : Int
def Stp.cells (s : Stp) : List Value := [.int .i64 s.pr, .int .i64 s.msg, .int .u32 s.id, .int .u32 s.v]
/-- one row of steps: its iterator -/
structure RowI where
  gf : FuncId
  lb : List Value
  sts : List Stp
def RowI.fn (r : RowI) : Value := .func (.func r.gf) #[] r.lb.toArray
end Go.Proofs.YtbgibbbggajgaaaGreat
/- A region that draws its order, in which one alloc may come up at any time: the rest is walked once, whether it has come or not. -/
namespace Go.Proofs.YtbgibbbggajgaaaGreat
set_option linter.all false
open Go.RowKit
section
variable {P : Program} {N : Nat} {w0 w : World} {e : Env} {R R' R0 : List Piece} {H H0 : List HP} {Q : Exit → Act → World → Prop} {ops : Array Oper} {m fuel : Nat} {listed : Array Bool} {K : Act → World → Prop}
variable {d dA : Nat} {t ty : TypeId} {pos : String} {aft : Array Edge} {cs : List Value} {v : Value}
/-! a bool that was reckoned by parts -/
theorem get_iff {p q : Prop} [Decidable p] [Decidable q] {u : Nat} (h : e.get u = some (.bool (decide p))) (hpq : p ↔ q) : e.get u = some (.bool (decide q)) := by
  rw [h, decide_eq_decide.2 hpq]
theorem get_false {q : Prop} [Decidable q] {u : Nat} (h : e.get u = some (.bool false)) (hq : ¬ q) : e.get u = some (.bool (decide q)) := by rw [h, decide_eq_false hq]
theorem get_true {q : Prop} [Decidable q] {u : Nat} (h : e.get u = some (.bool true)) (hq : q) : e.get u = some (.bool (decide q)) := by rw [h, decide_eq_true hq]
theorem get_bool {q : Prop} [Decidable q] {u : Nat} {b : Bool} (h : e.get u = some (.bool b)) (hb : b = true ↔ q) : e.get u = some (.bool (decide q)) := by
  rw [h]
  congr 2
  by_cases hq : q
  · rw [decide_eq_true hq, hb.2 hq]
  · rw [decide_eq_false hq]
    cases b
    · rfl
    · exact absurd (hb.1 rfl) hq
theorem Rep.sub_cons {e0 : Env} {a : Act} {u : Nat} {x : Value} (h : Rep N e a) (hs : e0.Sub e) (hu : e.get u = some x) : Rep N ((u, x) :: e0) a := h.sub (e' := (u, x) :: e0) ⟨hu, hs⟩
theorem XK.cutB {x y : Code} {Q : Exit → Act → World → Prop} (u : Nat) (p : Prop) [Decidable p] (h : XK N w0 (x.wp P (Exit.then (fun a' w' => Rep N ((u, .bool (decide p)) :: e) a' ∧ St w0 R H w') Q)) e R H)
    (hy : XK N w0 (y.wp P Q) ((u, .bool (decide p)) :: e) R H) : XK N w0 ((Code.seq x y).wp P Q) e R H := fun a w hr st => by
  refine wp_seq (wp_mono (h a w hr st) fun x a' w' hq => ?_)
  cases x with
  | normal => exact hy a' w' hq.1 hq.2
  | _ => exact hq
theorem XK.meetB {e0 : Env} {u : Nat} {p : Prop} [Decidable p] (hs : e0.Sub e) (hu : e.get u = some (.bool (decide p))) : XK N w0 (fun a' w' => Rep N ((u, .bool (decide p)) :: e0) a' ∧ St w0 R H w') e R H := fun _ _ hr st => ⟨hr.sub_cons hs hu, st⟩
end
end Go.Proofs.YtbgibbbggajgaaaGreat
/- The small logic: a chunk that is one of many, not told which. -/
namespace Go.Proofs.YtbgibbbggajgaaaGreat
set_option linter.all false
open Go.RowKit
def HP.ex {α : Type} (f : α → HP) : HP := ⟨fun F w => ∃ a, (f a).sat F w, fun F w w' ⟨a, h⟩ hk => ⟨a, (f a).loc F w w' h hk⟩⟩
section
variable {N : Nat} {w0 : World} {e : Env} {R : List Piece} {H : List HP} {K : Act → World → Prop}
theorem XK.openEx (i : Nat) {α : Type} {f : α → HP} (hi : H[i]? = some (HP.ex f)) (h : ∀ a, XK N w0 K e R (H.set i (f a))) : XK N w0 K e R H := fun a w hr st => by
  obtain ⟨Z, F, hz, hrr, hs, hff, hdd⟩ := st.ex
  obtain ⟨x, hx⟩ := hs i _ hi
  have hlt : i < H.length := by
    rcases Nat.lt_or_ge i H.length with h | h
    · exact h
    · rw [List.getElem?_eq_none h] at hi; cases hi
  refine h x a w hr ⟨st.os, st.tape, st.output, st.size, Z, F, hz, hrr, fun j p hj => ?_, hff, hdd⟩
  rw [List.getElem?_set] at hj
  split at hj
  · rename_i e; subst e
    first | (rw [if_pos hlt] at hj; cases hj) | cases hj
    exact hx
  · exact hs j p hj
theorem XK.toEx (i : Nat) {α : Type} {f : α → HP} (x : α) (hi : H[i]? = some (f x)) (h : XK N w0 K e R (H.set i (HP.ex f))) : XK N w0 K e R H := fun a w hr st =>
  h a w hr (st.turn hi (Nat.le_refl _) rfl rfl rfl fun F hF hlt => ⟨F, ⟨x, hF⟩, fun b hb => ⟨.inl hb, hlt b hb⟩, fun _ _ _ => rfl⟩)
/-- two chunks as one -/
theorem XK.pair {p q : HP} (h : XK N w0 K e R (HP.many [p, q] :: H)) : XK N w0 K e R (p :: q :: H) := fun a w hr st => by
  obtain ⟨Z, F, hz, hrr, hs, hff, hdd⟩ := st.ex
  refine h a w hr ⟨st.os, st.tape, st.output, st.size, Z, fun j => match j with | 0 => fun b => F 0 b ∨ F 1 b | j + 1 => F (j + 2), hz, hrr, fun j r hj => ?_, fun j b hb => ?_, fun j k b hjk hj hk => ?_⟩
  · cases j with
    | zero =>
      simp at hj
      subst hj
      refine ⟨fun i b => i < 2 ∧ F i b, fun i r hi => ?_, fun i b hb => ?_, fun i k b hik h1 h2 => hdd i k b hik h1.2 h2.2⟩
      · have key : ∀ k, k < 2 → (fun b => k < 2 ∧ F k b) = F k := fun k hk => by funext b; simp [hk]
        match i, hi with
        | 0, hi => simp at hi; subst hi; show p.sat (fun b => 0 < 2 ∧ F 0 b) w; rw [key 0 (by omega)]; exact hs 0 _ rfl
        | 1, hi => simp at hi; subst hi; show q.sat (fun b => 1 < 2 ∧ F 1 b) w; rw [key 1 (by omega)]; exact hs 1 _ rfl
        | i + 2, hi => simp at hi
      · obtain ⟨hlt, hb⟩ := hb
        match i, hlt, hb with
        | 0, _, hb => exact .inl hb
        | 1, _, hb => exact .inr hb
    | succ j => exact hs (j + 2) r (by simpa using hj)
  · cases j with
    | zero => rcases hb with hb | hb <;> exact hff _ b hb
    | succ j => exact hff _ b hb
  · cases j with
    | zero => cases k with
      | zero => exact hjk rfl
      | succ k => rcases hj with hj | hj
                  · exact hdd 0 (k + 2) b (by omega) hj hk
                  · exact hdd 1 (k + 2) b (by omega) hj hk
    | succ j => cases k with
      | zero => rcases hk with hk | hk
                · exact hdd 0 (j + 2) b (by omega) hk hj
                · exact hdd 1 (j + 2) b (by omega) hk hj
      | succ k => exact hdd (j + 2) (k + 2) b (by omega) hj hk
end
end Go.Proofs.YtbgibbbggajgaaaGreat
/- A chip that is made is right; its orders are 0, 1, 2, .. No walk in sight. -/
namespace Go.Proofs.YtbgibbbggajgaaaGreat
set_option linter.all false
theorem firstE_all {es : List Int} (h : ∀ e ∈ es, e = 0) : firstE es = 0 := firstE_none fun j hj => by rw [List.getElem?_eq_getElem hj, h _ (List.getElem_mem hj)]
theorem withinB_of {n lo hi : Int} (h1 : lo ≤ n) (h2 : n ≤ hi) : withinB n lo hi = true := by simp [withinB, h1, h2]
theorem whenE_of {b : Bool} {e : Int} (h : b = false) : whenE b e = 0 := by rw [h]; rfl
section
variable {s : Soc} (h : s.made)
include h
theorem made_clocks : LessG (clocksG s) := by
  intro k l hl u hu
  simp only [clocksG, List.getElem?_map, Option.map_eq_some_iff] at hl
  obtain ⟨c, hc, rfl⟩ := hl
  exact (h.clocks k c hc).1 u hu
theorem made_doms : LessG (domsG s) := by
  intro k l hl u hu
  simp only [domsG, List.getElem?_map, Option.map_eq_some_iff] at hl
  obtain ⟨d, hd, rfl⟩ := hl
  have := (h.domains k d hd).1
  split at hu
  · cases hu
  · rename_i hne
    simp at hu
    subst hu
    exact this.resolve_left hne
theorem made_needs : LessG (needsG s) := by
  intro k l hl u hu
  simp only [needsG, List.getElem?_map, Option.map_eq_some_iff] at hl
  obtain ⟨d, hd, rfl⟩ := hl
  obtain ⟨_, _, _, _, _, _, _, _, _, _, _, h1⟩ := h.devs k d hd
  exact h1 u hu
theorem made_small : s.small := by
  refine ⟨by have := h.nc; omega, by have := h.nd; omega, by have := h.nr; omega, by have := h.nv; omega, fun c hc => ?_, fun d hd => ?_⟩
  · obtain ⟨k, hk⟩ := List.getElem?_of_mem hc
    rcases (h.clocks k c hk).2 with h1 | h1 | h1 | h1 | h1
    · rw [h1.2.1]; simp
    all_goals (have := h1.2.1; omega)
  · obtain ⟨k, hk⟩ := List.getElem?_of_mem hd
    obtain ⟨_, _, _, _, _, _, _, _, _, _, h1, _⟩ := h.devs k d hk
    omega
theorem made_orders : orderE (clocksG s) = (0, List.range s.clocks.length) ∧ orderE (domsG s) = (0, List.range s.domains.length) ∧ orderE (needsG s) = (0, List.range s.devs.length) := by
  refine ⟨?_, ?_, ?_⟩
  · have := (made_clocks h).orderE (by simp [clocksG]; have := h.nc; omega)
    simpa [clocksG] using this
  · have := (made_doms h).orderE (by simp [domsG]; have := h.nd; omega)
    simpa [domsG] using this
  · have := (made_needs h).orderE (by simp [needsG]; have := h.nv; omega)
    simpa [needsG] using this
theorem made_clock {k : Nat} {c : Clk} (hc : s.clocks[k]? = some c) : clockE s.clocks.length c = 0 := by
  have hk := (List.getElem?_eq_some_iff.1 hc).1
  obtain ⟨h1, h2⟩ := h.clocks k c hc
  refine firstE_all fun e he => ?_
  simp only [List.mem_cons, List.not_mem_nil, or_false] at he
  rcases he with rfl | rfl | rfl
  · refine whenE_of ?_
    rcases h2 with h2 | h2 | h2 | h2 | h2
    · simp [shapeB, h2.1, h2.2.1]
    · simp [shapeB, h2.1, h2.2.1]
    · simp [shapeB, h2.1, h2.2.1]
    · simp [shapeB, h2.1, h2.2.1]
    · simp [shapeB, h2.1, h2.2.1, withinB]
  · refine firstE_all fun e he => ?_
    simp only [List.mem_map] at he
    obtain ⟨f, hf, rfl⟩ := he
    have := h1 f hf
    exact whenE_of (by rw [withinB_of (by omega) (by omega)]; rfl)
  · refine whenE_of ?_
    rcases h2 with h2 | h2 | h2 | h2 | h2
    · obtain ⟨h3, _, h4, h5, _⟩ := h2
      simp [numbersB, h3]; omega
    · obtain ⟨h3, _, _, h4, h5, h6, h7, h8, h9⟩ := h2
      simp [numbersB, h3, withinB]; omega
    · obtain ⟨h3, _, _, _, h4, h5, _⟩ := h2
      simp [numbersB, h3, withinB]; omega
    · simp [numbersB, h2.1]
    · simp [numbersB, h2.1]
theorem made_domain {k : Nat} {d : Dom} (hd : s.domains[k]? = some d) : domainE s.domains.length d = 0 := by
  have hk := (List.getElem?_eq_some_iff.1 hd).1
  obtain ⟨h1, h2, h3⟩ := h.domains k d hd
  refine firstE_all fun e he => ?_
  simp only [List.mem_cons, List.not_mem_nil, or_false] at he
  rcases he with rfl | rfl
  · refine whenE_of ?_
    rcases h1 with h1 | h1
    · simp [h1]
    · rw [withinB_of (by omega) (by omega)]; simp
  · exact whenE_of (by rw [withinB_of (by omega) (by omega)]; rfl)
theorem made_device {k : Nat} {d : Dev} (hd : s.devs[k]? = some d) : deviceE s.clocks.length s.domains.length s.resets.length s.devs.length d = 0 ∧ manyE d = 0 := by
  have hk := (List.getElem?_eq_some_iff.1 hd).1
  obtain ⟨a1, a2, a3, a4, a5, a6, _, _, a7, _, a8, a9⟩ := h.devs k d hd
  refine ⟨firstE_all fun e he => ?_, ?_⟩
  · simp only [List.mem_cons, List.not_mem_nil, or_false] at he
    rcases he with rfl | rfl | rfl | rfl
    · exact whenE_of (by rw [withinB_of (by omega) (by omega)]; rfl)
    · exact whenE_of (by rw [withinB_of (by omega) (by omega)]; rfl)
    · exact whenE_of (by rw [withinB_of (by omega) (by omega)]; rfl)
    · refine firstE_all fun e he => ?_
      simp only [List.mem_map] at he
      obtain ⟨f, hf, rfl⟩ := he
      have := a9 f hf
      exact whenE_of (by rw [withinB_of (by omega) (by omega)]; rfl)
  · refine whenE_of ?_
    simp
    omega
theorem made_check : checkS s = 0 := by
  obtain ⟨o1, o2, o3⟩ := made_orders h
  refine firstE_all fun e he => ?_
  simp only [checkL, List.mem_cons, List.not_mem_nil, or_false] at he
  have h1 := h.nc
  have h2 := h.nd
  have h3 := h.nr
  have h4 := h.nv
  rcases he with rfl | rfl | rfl | rfl | rfl | rfl | rfl | rfl
  · rw [fullE, if_neg (by omega)]
    refine firstE_all fun e he => ?_
    obtain ⟨d, hd, rfl⟩ := List.mem_map.1 he
    obtain ⟨k, hk⟩ := List.getElem?_of_mem hd
    exact (made_device h hk).2
  · refine firstE_all fun e he => ?_
    obtain ⟨d, hd, rfl⟩ := List.mem_map.1 he
    obtain ⟨k, hk⟩ := List.getElem?_of_mem hd
    exact made_clock h hk
  · rw [cycE, o1]; rfl
  · refine firstE_all fun e he => ?_
    obtain ⟨d, hd, rfl⟩ := List.mem_map.1 he
    obtain ⟨k, hk⟩ := List.getElem?_of_mem hd
    exact made_domain h hk
  · rw [cycE, o2]; rfl
  · refine firstE_all fun e he => ?_
    obtain ⟨d, hd, rfl⟩ := List.mem_map.1 he
    have := h.resets d hd
    exact whenE_of (by rw [withinB_of (by omega) (by omega)]; rfl)
  · refine firstE_all fun e he => ?_
    obtain ⟨d, hd, rfl⟩ := List.mem_map.1 he
    obtain ⟨k, hk⟩ := List.getElem?_of_mem hd
    exact (made_device h hk).1
  · rw [cycE, o3]; rfl
end
end Go.Proofs.YtbgibbbggajgaaaGreat
/- wishes: rows of raw bits; whether wishes are the same; as the reference has them. -/
namespace Go.Proofs.YtbgibbbggajgaaaGreat
set_option linter.all false
open Go.RowKit
structure Wsh where
  d : List Bool
  c : List Bool
  l : List Bool
/-- wishes, as they lie in a piece -/
def WshR (p : Piece) (x : Wsh) (v : Value) : Prop := ∃ A1 k1 A2 k2 A3 k3, v = .agg #[.slice A1 x.d.length k1, .slice A2 x.c.length k2, .slice A3 x.l.length k3] ∧
  SlS p 1 A1 x.d.length (boolCells x.d) ∧ SlS p 1 A2 x.c.length (boolCells x.c) ∧ SlS p 1 A3 x.l.length (boolCells x.l)
theorem WshR.le {p q : Piece} {x : Wsh} {v : Value} (h : WshR p x v) (hl : p.Le q) : WshR q x v := by
  obtain ⟨A1, k1, A2, k2, A3, k3, h0, h1, h2, h3⟩ := h
  exact ⟨A1, k1, A2, k2, A3, k3, h0, h1.le hl, h2.le hl, h3.le hl⟩
def sameB (a b : List Bool) : Bool := decide (a = b)
def Wsh.same (x y : Wsh) : Bool := sameB x.d y.d && sameB x.c y.c && sameB x.l y.l
end Go.Proofs.YtbgibbbggajgaaaGreat
/- wishes: whether they are alike; what is wished behind a step, and the reference's answer. -/
namespace Go.Proofs.YtbgibbbggajgaaaGreat
set_option linter.all false
open Go.RowKit
structure Stp.ok (p : Stp) : Prop where
  pr : -9223372036854775808 ≤ p.pr ∧ p.pr ≤ 9223372036854775807
  msg : -9223372036854775808 ≤ p.msg ∧ p.msg ≤ 9223372036854775807
  id : 0 ≤ p.id ∧ p.id < 4294967296
  v : 0 ≤ p.v ∧ p.v < 4294967296

end Go.Proofs.YtbgibbbggajgaaaGreat
/- chapter 17's laws: their head; the steps of a chip that is made. -/
namespace Go.Proofs.YtbgibbbggajgaaaGreat
set_option linter.all false
open Go.RowKit
/-- a chip that a piece shows -/
structure SocP (p : Piece) (s : Soc) (A1 : Option Addr) (n1 : Nat) (A2 : Option Addr) (n2 : Nat) (A3 : Option Addr) (n3 : Nat) (A4 : Option Addr) (n4 : Nat) : Prop where
  clk : RsR (slq p) (ClkR (slq p)) 87 6 A1 n1 s.clocks
  dom : RsR (slq p) DomR 89 3 A2 n2 s.domains
  rst : RsR (slq p) RstR 91 1 A3 n3 s.resets
  dev : RsR (slq p) (DevR (slq p)) 94 6 A4 n4 s.devs
section
variable {p q : Piece} {w : World} {s : Soc} {A1 A2 A3 A4 : Option Addr} {n1 n2 n3 n4 : Nat}
theorem SocP.le (h : SocP p s A1 n1 A2 n2 A3 n3 A4 n4) (hl : p.Le q) : SocP q s A1 n1 A2 n2 A3 n3 A4 n4 :=
  ⟨h.clk.mono (slq_le hl) (fun _ _ => ClkR.mono (slq_le hl)), h.dom.mono (slq_le hl) (fun _ _ h => h), h.rst.mono (slq_le hl) (fun _ _ h => h), h.dev.mono (slq_le hl) (fun _ _ => DevR.mono (slq_le hl))⟩
theorem SocP.W (h : SocP p s A1 n1 A2 n2 A3 n3 A4 n4) (hl : p.Le (all w)) (hs : s.small) : SocW w s A1 n1 A2 n2 A3 n3 A4 n4 := ⟨(h.le hl).clk, (h.le hl).dom, (h.le hl).rst, (h.le hl).dev, hs⟩
theorem SocP.len (h : SocP p s A1 n1 A2 n2 A3 n3 A4 n4) : n1 = s.clocks.length ∧ n2 = s.domains.length ∧ n3 = s.resets.length ∧ n4 = s.devs.length := by
  obtain ⟨⟨_, _, h1, _⟩, ⟨_, _, h2, _⟩, ⟨_, _, h3, _⟩, ⟨_, _, h4, _⟩⟩ := h
  exact ⟨h1, h2, h3, h4⟩
theorem SocR.P {cs : Array Value} (h : SocR (slq p) s cs) : ∃ A1 n1 k1 A2 n2 k2 A3 n3 k3 A4 n4 k4, cs = #[.slice A1 n1 k1, .slice A2 n2 k2, .slice A3 n3 k3, .slice A4 n4 k4] ∧ SocP p s A1 n1 A2 n2 A3 n3 A4 n4 := by
  obtain ⟨A1, n1, k1, A2, n2, k2, A3, n3, k3, A4, n4, k4, h0, h1, h2, h3, h4⟩ := h
  exact ⟨A1, n1, k1, A2, n2, k2, A3, n3, k3, A4, n4, k4, h0, h1, h2, h3, h4⟩
end
end Go.Proofs.YtbgibbbggajgaaaGreat
/- The steps of a chip that is made: which stands ahead of which. No walk in sight; and rows, as a piece shows them. -/
namespace Go.Proofs.YtbgibbbggajgaaaGreat
set_option linter.all false
open Go.RowKit
/-- element k of a row that a piece shows -/
theorem RsR.rowP {α : Type} {p : Piece} {R : α → List Value → Prop} {t : TypeId} {sz n : Nat} {A : Option Addr} {es : List α} (h : RsR (slq p) R t sz A n es) {k : Nat} {e : α} (hk : es[k]? = some e) :
    ∃ b off r, A = some ⟨b, off, none⟩ ∧ p.Z b ∧ r.length = sz ∧ R e r ∧ ∀ f u, r[f]? = some u → p.w.cell? ⟨b, off + k * sz + f, none⟩ = some u := by
  obtain ⟨rows, h1, h2, h3⟩ := h
  have hlt : k < n := by
    rw [h2]
    rcases Nat.lt_or_ge k es.length with h | h
    · exact h
    · rw [List.getElem?_eq_none h] at hk; cases hk
  obtain ⟨b, off, hA, hb, hc⟩ := SlS.at_ h3 hlt
  obtain ⟨r, h4, h5, h6⟩ := h1.get hk
  refine ⟨b, off, r, hA, hb, h4, h5, fun f u hu => hc f u ?_⟩
  have hf : f < sz := by
    rw [← h4]
    rcases Nat.lt_or_ge f r.length with h | h
    · exact h
    · rw [List.getElem?_eq_none h] at hu; cases hu
  rw [h6 f hf, hu]
theorem Stp.cells_len (p : Stp) : p.cells.length = 4 := rfl
/-- step k of a row of steps -/
theorem SlS.step {p : Piece} {A : Option Addr} {L : List Stp} (h : SlS p 4 A L.length (L.flatMap Stp.cells)) {k : Nat} {x : Stp} (hk : L[k]? = some x) :
    ∃ b off, A = some ⟨b, off, none⟩ ∧ p.Z b ∧ ∀ f u, x.cells[f]? = some u → p.w.cell? ⟨b, off + k * 4 + f, none⟩ = some u := by
  have hlt := (List.getElem?_eq_some_iff.1 hk).1
  obtain ⟨b, off, hA, hb, hc⟩ := SlS.at_ h hlt
  refine ⟨b, off, hA, hb, fun f u hu => hc f u ?_⟩
  have hf : f < 4 := by
    rw [← Stp.cells_len x]
    rcases Nat.lt_or_ge f x.cells.length with h | h
    · exact h
    · rw [List.getElem?_eq_none h] at hu; cases hu
  rw [flat_get Stp.cells 4 L (fun _ _ => rfl) k f x hk hf, hu]
end Go.Proofs.YtbgibbbggajgaaaGreat
/- The steps from some wishes to others lead there, and are as many as those back. No walk in sight. -/
namespace Go.Proofs.YtbgibbbggajgaaaGreat
set_option linter.all false
open Go.RowKit
structure Wsh.of (x : Wsh) (s : Soc) : Prop where
  d : x.d.length = s.domains.length
  c : x.c.length = s.clocks.length
  l : x.l.length = s.resets.length
end Go.Proofs.YtbgibbbggajgaaaGreat
/- The small logic: several new blocks, in whatever order they come up. -/
namespace Go.Proofs.YtbgibbbggajgaaaGreat
set_option linter.all false
open Go.RowKit
/-- an operation that makes a block: its slot, the block's type and cells, what it yields -/
structure AL where
  d : Nat
  t : TypeId
  cs : List Value
  val : Nat → Value
section
variable {P : Program} {N : Nat} {w0 w : World} {e : Env} {R R0 : List Piece} {H H0 : List HP} {Q : Exit → Act → World → Prop} {ops : Array Oper} {m fuel : Nat} {listed : Array Bool} {K : Act → World → Prop}
variable {al : Nat → AL} {g g' : Nat → Nat}
/-- the operation makes the block, wherever the slots are so -/
def Makes (P : Program) (N : Nat) (e : Env) (o : Oper) (x : AL) : Prop := ∀ a w, Rep N e a → (execOp a.eval o).run P w = .ok (.value (x.val w.heap.size)) (w.alloc (.cells x.cs.toArray x.t))
structure ALok (P : Program) (N : Nat) (ops : Array Oper) (e : Env) (x : AL) (i : Nat) : Prop where
  ok : ∃ o, ops[i]? = some o ∧ o.guard = none ∧ o.dst = some x.d ∧ Makes P N e o x
  lt : x.d < N
  new : e.get x.d = none
theorem ALok.of {o : Oper} {x : AL} {i : Nat} (h1 : ops[i]? = some o) (h2 : o.guard = none) (h3 : o.dst = some x.d) (h4 : Makes P N e o x) (h5 : x.d < N) (h6 : e.get x.d = none) : ALok P N ops e x i := ⟨⟨o, h1, h2, h3, h4⟩, h5, h6⟩
end
end Go.Proofs.YtbgibbbggajgaaaGreat
/- What devices in use want, in plain words. No walk in sight. -/
namespace Go.Proofs.YtbgibbbggajgaaaGreat
set_option linter.all false
open Go.RowKit
def UpsR (s : Soc) : Int → List Nat → Prop
  | d, [] => d = -1
  | d, i :: r => d = (i : Int) ∧ ∃ x, s.domains[i]? = some x ∧ UpsR s x.above r
/-- what is above one of the row is of the row -/
theorem UpsR.up {s : Soc} : ∀ {l : List Nat} {d : Int}, UpsR s d l → ∀ i ∈ l, ∀ x, s.domains[i]? = some x → 0 ≤ x.above → x.above.toNat ∈ l
  | [], _, _, i, h, _, _, _ => by cases h
  | j :: l, _, ⟨_, y, hy, hr⟩, i, h, x, hx, h0 => by
    rcases List.mem_cons.1 h with rfl | h
    · rw [hy] at hx
      cases hx
      cases l with
      | nil => have h2 : y.above = -1 := hr; omega
      | cons k l =>
        have h2 : y.above = (k : Int) := hr.1
        rw [h2]
        simp
    · exact List.mem_cons_of_mem _ (hr.up i h x hx h0)
end Go.Proofs.YtbgibbbggajgaaaGreat
/- The reference's order of a graph all of whose sources are smaller. -/
namespace Go.Proofs.YtbgibbbggajgaaaGreat
set_option linter.all false
open Go.RowKit
/-- the first j of n are done -/
def doneC (n j : Nat) : List Value := (List.replicate j (Value.bool true)) ++ List.replicate (n - j) (.bool false)
theorem doneC_len {n j : Nat} (h : j ≤ n) : (doneC n j).length = n := by simp [doneC]; omega
theorem doneC_lt {n j v : Nat} (h : v < j) : (doneC n j)[v]? = some (.bool true) := by
  rw [doneC, List.getElem?_append_left (by simpa using h), List.getElem?_replicate, if_pos h]
theorem doneC_at {n j : Nat} (h : j < n) : (doneC n j)[j]? = some (.bool false) := by
  rw [doneC, List.getElem?_append_right (by simp)]
  simp [List.getElem?_replicate]; omega
theorem doneC_set {n j : Nat} (h : j < n) : (doneC n j).set j (.bool true) = doneC n (j + 1) := by
  unfold doneC
  rw [List.set_append_right _ _ (by simp), List.length_replicate, Nat.sub_self, show n - j = (n - (j + 1)) + 1 by omega, List.replicate_succ, List.set_cons_zero, List.replicate_succ' (n := j), List.append_assoc]
  rfl
theorem SlS.intR {w : World} {A : Option Addr} {n : Nat} {l : List Int} (h : SlS (all w) 1 A n (intCells l)) (hn : 0 < n) : ∃ b off, A = some ⟨b, off, none⟩ ∧ ∀ (i : Nat) (x : Int), l[i]? = some x → ROc w b (off + i) (.int .i64 x) := by
  obtain ⟨b, off, hA, hb, hc⟩ := h.2 hn
  refine ⟨b, off, hA, fun i x hx => ⟨hb, hc i _ ?_⟩⟩
  simp only [intCells, List.getElem?_map, hx, Option.map_some]
theorem rangeN_next (j : Nat) : intCells (natI (List.range j)) ++ [.int .i64 (j : Int)] = intCells (natI (List.range (j + 1))) := by
  rw [List.range_succ]; simp [intCells, natI]
def rangeV (n : Nat) (v : Value) (w w' : World) : Prop := ∃ A c, v = .slice A n c ∧ SlS (fresh w w') 1 A n (intCells (natI (List.range n)))

theorem refOrder_any (A : Option Addr) (n c : Nat) (g : List (List Int)) (w : World) (hg : GrS (all w) A n g) (hn : n = g.length) (hn2 : n ≤ 100) (hg2 : ∀ l ∈ g, l.length ≤ 1000000) (hless : ∀ (v : Nat) (l : List Int), g[v]? = some l → ∀ y ∈ l, 0 ≤ y ∧ y < (v : Int)) :
    Calls Tryz.prog 113 #[.slice A n c] w (fun y w' => (∃ v, y = .returned v ∧ rangeV n v w w') ∧ Below w.heap.size w w') := by
  refine XK.enter (vs := [.slice A n c]) Tryz.func113 rfl Tryz.ntmps113 (by simp) ?_
  refine XK.seq ?_

  refine XK.region ?_
  refine xk_assign rfl (by decide) ?_
  refine XK.nilN ?_
  refine XK.seq ?_

  refine XK.region ?_
  refine xk_assign rfl (by decide) ?_
  refine XK.nilN ?_
  refine XK.seq ?_

  refine XK.region ?_
  refine xk_move rfl (by decide) ?_
  refine xk_len (el := 22) (by kernel_rfl) rfl (by decide) ?_
  refine XK.nilrow 3 1 ?_
  refine xk_makeT 1 (n := n) (el := 4) (z := .bool false) (by kernel_rfl) (by kernel_rfl) rfl rfl rfl (by omega) (by omega) (by decide) fun g1 => ?_
  refine xk_assign rfl (by decide) ?_
  refine XK.nilN ?_
  refine XK.seq ?_

  refine XK.region ?_
  refine xk_assign rfl (by decide) ?_
  refine XK.nilN ?_
  refine XK.seq ?_
  refine XK.envS [(5, .bool true), (4, .slice (some ⟨g1, 0, none⟩) n n), (3, .slice none 0 0), (0, .slice A n c)] ?_
  refine XK.block ?_
  refine XK.loop (fun m e R H => ∃ (j : Nat) (mo : Bool) (Ao : Option Addr) (co : Nat), j ≤ n ∧ (mo = false → j = n) ∧ m = 2 * (n - j) + mo.toNat ∧ e = [(5, .bool mo), (4, .slice (some ⟨g1, 0, none⟩) n n), (3, .slice Ao j co), (0, .slice A n c)] ∧ R = [all w] ∧ H = [HP.blk g1 4 (doneC n j), HP.own 3 1 (.slice Ao j co) j (intCells (natI (List.range j)))]) (2 * n + 1) ⟨0, true, none, 0, by omega, (fun h => by cases h), by simp, rfl, rfl, by simp [doneC, intCells, natI]⟩ fun m e R H hI => ?_
  obtain ⟨j, mo, Ao, co, hj, hmo, rfl, rfl, rfl, rfl⟩ := hI
  refine XK.seq ?_
  refine XK.seq ?_

  refine XK.region ?_
  refine xk_move rfl (by decide) ?_
  refine XK.nilN ?_
  refine XK.cond rfl (fun h => ?_) (fun h => ?_)
  ·
    refine XK.skip ?_
    refine XK.norm ?_
    refine XK.block ?_
    refine XK.seq ?_
    subst h

    refine XK.region ?_
    refine xk_assign rfl (by decide) ?_
    refine XK.nilN ?_
    refine XK.seq ?_

    refine XK.region ?_
    refine xk_assign rfl (by decide) ?_
    refine XK.nilN ?_
    refine XK.envS [(6, .int .i64 0), (5, .bool false), (4, .slice (some ⟨g1, 0, none⟩) n n), (3, .slice Ao j co), (0, .slice A n c)] ?_
    refine XK.block ?_
    refine XK.loop (fun m e R H => ∃ (v : Nat) (mi : Bool) (jj : Nat) (Ao : Option Addr) (co : Nat), v ≤ n ∧ ((mi = false ∧ jj = j ∧ v ≤ j) ∨ (mi = true ∧ jj = j + 1 ∧ j < n ∧ v = j + 1)) ∧ m = n - v ∧ e = [(6, .int .i64 v), (5, .bool mi), (4, .slice (some ⟨g1, 0, none⟩) n n), (3, .slice Ao jj co), (0, .slice A n c)] ∧ R = [all w] ∧ H = [HP.blk g1 4 (doneC n jj), HP.own 3 1 (.slice Ao jj co) jj (intCells (natI (List.range jj)))]) n ⟨0, false, j, Ao, co, by omega, .inl ⟨rfl, rfl, by omega⟩, rfl, rfl, rfl, rfl⟩ fun m e R H hI => ?_
    obtain ⟨v, mi, jj, Ao, co, hv, hst, rfl, rfl, rfl, rfl⟩ := hI
    refine XK.seq ?_
    refine XK.cutB 20 (v < n ∧ mi = false) ?_ ?_
    · skip

      refine XK.region ?_
      refine xk_move rfl (by decide) ?_
      refine xk_move rfl (by decide) ?_
      refine xk_len (el := 22) (by kernel_rfl) rfl (by decide) ?_
      refine xk_lss rfl rfl (by decide) ?_
      refine xk_move rfl (by decide) ?_
      (first | refine xk_split (t := 17) rfl (fun hg => ?_) (fun hg => ?_) | refine xk_splitB (t := 17) rfl (fun hg => ?_) (fun hg => ?_))
      ·
        refine xk_guardT rfl rfl ?_; refine xk_move rfl (by decide) ?_
        refine xk_guardT rfl rfl ?_; (first | refine xk_notD rfl (by decide) ?_ | refine xk_not rfl (by decide) ?_)
        (first | refine xk_pickT rfl rfl (by decide) ?_ | refine xk_pickF rfl rfl (by decide) ?_)
        refine XK.nilN ?_
        exact XK.meetB (by repeat (first | exact trivial | refine ⟨rfl, ?_⟩)) (by first | (refine get_iff rfl ?_; omega) | (refine get_iff rfl ?_; simp_all; done) | (refine get_false rfl ?_; first | omega | (simp_all; done)) | (refine get_true rfl ?_; first | omega | (simp_all; done)) | (refine get_bool rfl ?_; simp_all; done) | (refine get_iff rfl ⟨fun hh => ?_, fun hh => ?_⟩ <;> first | omega | (simp_all; done) | (simp_all; omega)) | (exfalso; omega))
      ·
        refine xk_guardF rfl rfl rfl (by decide) ?_
        refine xk_guardF rfl rfl rfl (by decide) ?_
        (first | refine xk_pickT rfl rfl (by decide) ?_ | refine xk_pickF rfl rfl (by decide) ?_)
        refine XK.nilN ?_
        exact XK.meetB (by repeat (first | exact trivial | refine ⟨rfl, ?_⟩)) (by first | (refine get_iff rfl ?_; omega) | (refine get_iff rfl ?_; simp_all; done) | (refine get_false rfl ?_; first | omega | (simp_all; done)) | (refine get_true rfl ?_; first | omega | (simp_all; done)) | (refine get_bool rfl ?_; simp_all; done) | (refine get_iff rfl ⟨fun hh => ?_, fun hh => ?_⟩ <;> first | omega | (simp_all; done) | (simp_all; omega)) | (exfalso; omega))
    refine XK.if_ rfl (fun hin => ?_) (fun hin => ?_)
    ·
      refine XK.skip ?_
      refine XK.norm ?_
      refine XK.seq ?_
      refine XK.block ?_
      refine XK.seq ?_
      obtain ⟨hvn, hmf⟩ := hin
      obtain ⟨hvj, hjj⟩ : v ≤ j ∧ jj = j := by
        rcases hst with ⟨_, h2, h3⟩ | ⟨h1, _⟩
        · exact ⟨h3, h2⟩
        · rw [hmf] at h1; cases h1
      subst hjj
      subst hmf
      clear hst
      obtain ⟨l, hl⟩ : ∃ l, g[v]? = some l := ⟨g[v]'(by omega), List.getElem?_eq_getElem _⟩
      have hlt := hless v l hl
      have hlen := hg2 l (List.mem_of_getElem? hl)
      obtain ⟨bG, oG, Al, kl, rfl, hcG, hsl⟩ := hg.row hl
      have hdv : (doneC n jj)[v]? = some (.bool (decide (¬ v = jj))) := by
        by_cases hvj2 : v = jj
        · subst hvj2; rw [doneC_at hvn]; simp
        · rw [doneC_lt (by omega)]; simp [hvj2]

      refine XK.region ?_
      refine xk_move rfl (by decide) ?_
      refine xk_move rfl (by decide) ?_
      refine xk_at v v (el := 4) (sz := 1) (by kernel_rfl) (by kernel_rfl) rfl rfl (by omega) (by omega) (by omega) (by decide) ?_
      refine xk_load (by kernel_rfl) rfl (Rd.blk 0 rfl hdv) (by decide) ?_
      refine xk_notD rfl (by decide) ?_
      rw [show decide (¬ ¬ v = jj) = decide (v = jj) by simp]
      refine xk_assign rfl (by decide) ?_
      refine XK.nilN ?_
      refine XK.seq ?_
      refine XK.seq ?_

      refine XK.region ?_
      refine xk_assign rfl (by decide) ?_
      refine XK.nilN ?_
      refine XK.envS [(8, .int .i64 0), (7, .bool (decide (v = jj))), (6, .int .i64 v), (5, .bool false), (4, .slice (some ⟨g1, 0, none⟩) n n), (3, .slice Ao jj co), (0, .slice (some ⟨bG, oG, none⟩) n c)] ?_
      refine XK.block ?_
      refine XK.loop (fun m e R H => ∃ (i : Nat) (rb : Bool), i ≤ l.length ∧ rb = decide (v = jj) ∧ m = l.length - i ∧ e = [(8, .int .i64 i), (7, .bool rb), (6, .int .i64 v), (5, .bool false), (4, .slice (some ⟨g1, 0, none⟩) n n), (3, .slice Ao jj co), (0, .slice (some ⟨bG, oG, none⟩) n c)] ∧ R = [all w] ∧ H = [HP.blk g1 4 (doneC n jj), HP.own 3 1 (.slice Ao jj co) jj (intCells (natI (List.range jj)))]) l.length ⟨0, _, by omega, rfl, rfl, rfl, rfl, rfl⟩ fun m e R H hI => ?_
      obtain ⟨i, rb, hi, hrb, rfl, rfl, rfl, rfl⟩ := hI
      refine XK.seq ?_
      refine XK.seq ?_

      refine XK.region ?_
      refine xk_move rfl (by decide) ?_
      refine xk_move rfl (by decide) ?_
      refine xk_move rfl (by decide) ?_
      refine xk_at v (oG + v) (el := 22) (sz := 1) (by kernel_rfl) (by kernel_rfl) rfl rfl (by omega) (by omega) (by omega) (by decide) ?_
      refine xk_load (by kernel_rfl) rfl (Rd.roc (by simp) hcG) (by decide) ?_
      refine xk_len (el := 3) (by kernel_rfl) rfl (by decide) ?_
      refine xk_lss rfl rfl (by decide) ?_
      refine XK.nilN ?_
      refine XK.if_ rfl (fun hil => ?_) (fun hil => ?_)
      ·
        refine XK.skip ?_
        refine XK.norm ?_
        refine XK.seq ?_
        refine XK.block ?_
        have hil' : i < l.length := by have h' : (i : Int) < (l.length : Int) := hil; omega
        obtain ⟨y, hy⟩ : ∃ y, l[i]? = some y := ⟨_, List.getElem?_eq_getElem hil'⟩
        have hyb := hlt y (List.mem_of_getElem? hy)
        obtain ⟨bI, oI, hAI, hcI⟩ := hsl.intR (by omega)
        subst hAI
        have hcy := hcI i y hy

        refine XK.region ?_
        refine xk_move rfl (by decide) ?_
        refine xk_move rfl (by decide) ?_
        refine xk_splitB (t := 38) rfl (fun hg1 => ?_) (fun hg1 => ?_)
        ·
          have hdy : (doneC n jj)[y.toNat]? = some (.bool true) := doneC_lt (by omega)
          refine xk_guardT rfl rfl ?_; refine xk_move rfl (by decide) ?_
          refine xk_guardT rfl rfl ?_; refine xk_move rfl (by decide) ?_
          refine xk_guardT rfl rfl ?_; refine xk_move rfl (by decide) ?_
          refine xk_guardT rfl rfl ?_; refine xk_at v (oG + v) (el := 22) (sz := 1) (by kernel_rfl) (by kernel_rfl) rfl rfl (by omega) (by omega) (by omega) (by decide) ?_
          refine xk_guardT rfl rfl ?_; refine xk_load (by kernel_rfl) rfl (Rd.roc (by simp) hcG) (by decide) ?_
          refine xk_guardT rfl rfl ?_; refine xk_move rfl (by decide) ?_
          refine xk_guardT rfl rfl ?_; refine xk_at i (oI + i) (el := 3) (sz := 1) (by kernel_rfl) (by kernel_rfl) rfl rfl (by omega) (by omega) (by omega) (by decide) ?_
          refine xk_guardT rfl rfl ?_; refine xk_load (by kernel_rfl) rfl (Rd.roc (by simp) hcy) (by decide) ?_
          refine xk_guardT rfl rfl ?_; refine xk_at y.toNat y.toNat (el := 4) (sz := 1) (by kernel_rfl) (by kernel_rfl) rfl rfl (by omega) (by omega) (by omega) (by decide) ?_
          refine xk_guardT rfl rfl ?_; refine xk_load (by kernel_rfl) rfl (Rd.blk 0 rfl hdy) (by decide) ?_
          (first | refine xk_pickT rfl rfl (by decide) ?_ | refine xk_pickF rfl rfl (by decide) ?_)
          refine xk_assign rfl (by decide) ?_
          refine XK.nilN ?_

          refine XK.region ?_
          refine xk_move rfl (by decide) ?_
          refine xk_add rfl rfl (wrap_in (by omega)) (by decide) ?_
          refine xk_assign rfl (by decide) ?_
          refine XK.nilN ?_
          exact XK.envS [(8, .int .i64 ((i : Int) + 1)), (7, .bool true), (6, .int .i64 v), (5, .bool false), (4, .slice (some ⟨g1, 0, none⟩) n n), (3, .slice Ao jj co), (0, .slice (some ⟨bG, oG, none⟩) n c)] (XK.round (l.length - (i + 1)) (by omega) ⟨i + 1, true, by omega, by rw [← hrb, hg1], rfl, rfl, rfl, rfl⟩)
        ·
          refine xk_guardF rfl rfl rfl (by decide) ?_
          refine xk_guardF rfl rfl rfl (by decide) ?_
          refine xk_guardF rfl rfl rfl (by decide) ?_
          refine xk_guardF rfl rfl rfl (by decide) ?_
          refine xk_guardF rfl rfl rfl (by decide) ?_
          refine xk_guardF rfl rfl rfl (by decide) ?_
          refine xk_guardF rfl rfl rfl (by decide) ?_
          refine xk_guardF rfl rfl rfl (by decide) ?_
          refine xk_guardF rfl rfl rfl (by decide) ?_
          refine xk_guardF rfl rfl rfl (by decide) ?_
          (first | refine xk_pickT rfl rfl (by decide) ?_ | refine xk_pickF rfl rfl (by decide) ?_)
          refine xk_assign rfl (by decide) ?_
          refine XK.nilN ?_

          refine XK.region ?_
          refine xk_move rfl (by decide) ?_
          refine xk_add rfl rfl (wrap_in (by omega)) (by decide) ?_
          refine xk_assign rfl (by decide) ?_
          refine XK.nilN ?_
          exact XK.envS [(8, .int .i64 ((i : Int) + 1)), (7, .bool false), (6, .int .i64 v), (5, .bool false), (4, .slice (some ⟨g1, 0, none⟩) n n), (3, .slice Ao jj co), (0, .slice (some ⟨bG, oG, none⟩) n c)] (XK.round (l.length - (i + 1)) (by omega) ⟨i + 1, false, by omega, by rw [← hrb, hg1], rfl, rfl, rfl, rfl⟩)
      ·
        refine XK.exit ?_
        refine XK.norm ?_
        refine XK.seq ?_

        refine XK.region ?_
        refine xk_move rfl (by decide) ?_
        refine XK.nilN ?_
        refine XK.cond rfl (fun hrd => ?_) (fun hrd => ?_)
        ·
          refine XK.seq ?_
          have hvj2 : v = jj := of_decide_eq_true (hrb ▸ hrd)
          subst hvj2

          refine XK.region ?_
          refine xk_move rfl (by decide) ?_
          refine xk_move rfl (by decide) ?_
          refine xk_at v v (el := 4) (sz := 1) (by kernel_rfl) (by kernel_rfl) rfl rfl (by omega) (by omega) (by omega) (by decide) ?_
          refine xk_store 0 rfl (by kernel_rfl) rfl rfl rfl (by rw [doneC_len (by omega)]; omega) ?_
          dsimp only [List.set]
          rw [doneC_set hvn]
          refine XK.nilN ?_
          refine XK.seq ?_

          refine XK.region ?_
          refine xk_move rfl (by decide) ?_
          refine xk_move rfl (by decide) ?_
          refine xk_slice (el := 3) (sz := 1) (zs := [.int .i64 0]) (by kernel_rfl) (zeroB_of (by kernel_rfl)) (by kernel_rfl) rfl (by decide) (by decide) rfl (by simp [fillL, setN, Value.cells, List.range_succ, List.set]; rfl) (by decide) fun g2 => ?_
          refine xk_appendT 2 1 8 1 (n' := v + 1) (el := 3) (by kernel_rfl) (by kernel_rfl) (by decide) rfl rfl rfl (sl_blk 0 rfl rfl) (by simp [Value.oneCell']) rfl (by omega) (by omega) (by decide) fun A9 c9 => ?_
          dsimp only [List.set]
          rw [rangeN_next]
          refine xk_assign rfl (by decide) ?_
          refine XK.nilN ?_

          refine XK.region ?_
          refine xk_assign rfl (by decide) ?_
          refine XK.nilN ?_

          refine XK.region ?_
          refine xk_move rfl (by decide) ?_
          refine xk_add rfl rfl (wrap_in (by omega)) (by decide) ?_
          refine xk_assign rfl (by decide) ?_
          refine XK.nilN ?_
          exact XK.weak [1, 2] rfl (by decide) (fun _ h => h) (XK.envS [(6, .int .i64 ((v : Int) + 1)), (5, .bool true), (4, .slice (some ⟨g1, 0, none⟩) n n), (3, .slice A9 (v + 1) c9), (0, .slice (some ⟨bG, oG, none⟩) n c)] (XK.round (n - (v + 1)) (by omega) ⟨v + 1, true, v + 1, A9, c9, by omega, .inr ⟨rfl, rfl, hvn, rfl⟩, rfl, rfl, rfl, rfl⟩))
        ·
          refine XK.skip ?_
          refine XK.norm ?_

          refine XK.region ?_
          refine xk_move rfl (by decide) ?_
          refine xk_add rfl rfl (wrap_in (by omega)) (by decide) ?_
          refine xk_assign rfl (by decide) ?_
          refine XK.nilN ?_
          exact XK.envS [(6, .int .i64 ((v : Int) + 1)), (5, .bool false), (4, .slice (some ⟨g1, 0, none⟩) n n), (3, .slice Ao jj co), (0, .slice (some ⟨bG, oG, none⟩) n c)] (XK.round (n - (v + 1)) (by omega) ⟨v + 1, false, jj, Ao, co, by omega, .inl ⟨rfl, rfl, by have hne : ¬ v = jj := of_decide_eq_false (hrb ▸ hrd); omega⟩, rfl, rfl, rfl, rfl⟩)
    ·
      refine XK.exit ?_
      refine XK.norm ?_
      rcases hst with ⟨rfl, rfl, h3⟩ | ⟨rfl, rfl, h3, rfl⟩
      · have hjn : jj = n := by
          rcases Nat.lt_or_ge v n with h9 | h9
          · exact absurd ⟨h9, rfl⟩ hin
          · omega
        exact XK.envS [(5, .bool false), (4, .slice (some ⟨g1, 0, none⟩) n n), (3, .slice Ao jj co), (0, .slice A n c)] (XK.round (2 * (n - jj) + 0) (by simp) ⟨jj, false, Ao, co, by omega, (fun _ => hjn), by simp, rfl, rfl, rfl⟩)
      · exact XK.envS [(5, .bool true), (4, .slice (some ⟨g1, 0, none⟩) n n), (3, .slice Ao (j + 1) co), (0, .slice A n c)] (XK.round (2 * (n - (j + 1)) + 1) (by simp; omega) ⟨j + 1, true, Ao, co, by omega, (fun h => by cases h), by simp, rfl, rfl, rfl⟩)
  ·
    refine XK.exit ?_
    refine XK.norm ?_
    refine XK.seq ?_

    refine XK.region ?_
    refine xk_move rfl (by decide) ?_
    refine xk_assign rfl (by decide) ?_
    refine XK.nilN ?_
    refine XK.ret ?_
    refine XK.norm ?_
    obtain rfl := hmo h
    refine XK.still [] [1] [] (by simp) rfl (by decide) (by decide) fun q hq _ hfr => ?_
    obtain ⟨F1, sf1, zf1⟩ := hq 1 _ (by simp) rfl
    obtain ⟨A8, c8, e8, h8⟩ := SlS.of_own (Y := q.Z) sf1 zf1
    injection e8 with f1 f2 f3
    subst f1
    exact XK.ret1 rfl rfl fun w1 st => ⟨⟨_, rfl, Ao, co, rfl, SlS.le h8 (st.fresh_le (by simp) (hfr (by simp) (by simp)))⟩, st.below (by simp)⟩

end Go.Proofs.YtbgibbbggajgaaaGreat
/- The reference's Check and Order of a graph all of whose sources are smaller. -/
namespace Go.Proofs.YtbgibbbggajgaaaGreat
set_option linter.all false
open Go.RowKit

theorem refCheck_any (A : Option Addr) (n c : Nat) (g : List (List Int)) (w : World) (hg : GrS (all w) A n g) (hn : n = g.length) (hn2 : n ≤ 100) (hg2 : ∀ l ∈ g, l.length ≤ 1000000) (hless : ∀ (v : Nat) (l : List Int), g[v]? = some l → ∀ y ∈ l, 0 ≤ y ∧ y < (v : Int)) :
    Calls Tryz.prog 112 #[.slice A n c] w (Rt (.int .i64 0) w) := by
  refine XK.enter (vs := [.slice A n c]) Tryz.func112 rfl Tryz.ntmps112 (by simp) ?_
  refine XK.seq ?_

  refine XK.region ?_
  refine xk_assign rfl (by decide) ?_
  refine XK.nilN ?_
  refine XK.seq ?_
  refine XK.seq ?_

  refine XK.region ?_
  refine xk_move rfl (by decide) ?_
  refine xk_len (el := 22) (by kernel_rfl) rfl (by decide) ?_
  refine xk_gtr rfl rfl (by decide) ?_
  refine XK.nilN ?_
  refine XK.if_ rfl (fun h => absurd h (by omega)) (fun h => ?_)

  ·
    refine XK.skip ?_
    refine XK.norm ?_
    refine XK.seq ?_
    refine XK.seq ?_

    refine XK.region ?_
    refine xk_assign rfl (by decide) ?_
    refine XK.nilN ?_
    refine XK.envS [(3, .int .i64 0), (0, .slice A n c)] ?_
    refine XK.block ?_
    refine XK.loop (fun m e R H => ∃ (v : Nat), v ≤ n ∧ m = n - v ∧ e = [(3, .int .i64 v), (0, .slice A n c)] ∧ R = [all w] ∧ H = []) n ⟨0, by omega, rfl, rfl, rfl, rfl⟩ fun m e R H hI => ?_
    obtain ⟨v, hv, rfl, rfl, rfl, rfl⟩ := hI
    refine XK.seq ?_
    refine XK.seq ?_

    refine XK.region ?_
    refine xk_move rfl (by decide) ?_
    refine xk_move rfl (by decide) ?_
    refine xk_len (el := 22) (by kernel_rfl) rfl (by decide) ?_
    refine xk_lss rfl rfl (by decide) ?_
    refine XK.nilN ?_
    refine XK.if_ rfl (fun hvl => ?_) (fun hvl => ?_)
    ·
      refine XK.skip ?_
      refine XK.norm ?_
      refine XK.seq ?_
      refine XK.block ?_
      refine XK.seq ?_
      have hvn : v < n := by have h' : (v : Int) < (n : Int) := hvl; omega
      obtain ⟨l, hl⟩ : ∃ l, g[v]? = some l := ⟨g[v]'(by omega), List.getElem?_eq_getElem _⟩
      have hlt := hless v l hl
      have hlen := hg2 l (List.mem_of_getElem? hl)
      obtain ⟨bG, oG, Al, kl, rfl, hcG, hsl⟩ := hg.row hl

      refine XK.region ?_
      refine xk_assign rfl (by decide) ?_
      refine XK.nilN ?_
      refine XK.envS [(4, .int .i64 0), (3, .int .i64 v), (0, .slice (some ⟨bG, oG, none⟩) n c)] ?_
      refine XK.block ?_
      refine XK.loop (fun m e R H => ∃ (i : Nat), i ≤ l.length ∧ m = l.length - i ∧ e = [(4, .int .i64 i), (3, .int .i64 v), (0, .slice (some ⟨bG, oG, none⟩) n c)] ∧ R = [all w] ∧ H = []) l.length ⟨0, by omega, rfl, rfl, rfl, rfl⟩ fun m e R H hI => ?_
      obtain ⟨i, hi, rfl, rfl, rfl, rfl⟩ := hI
      refine XK.seq ?_
      refine XK.seq ?_

      refine XK.region ?_
      refine xk_move rfl (by decide) ?_
      refine xk_move rfl (by decide) ?_
      refine xk_move rfl (by decide) ?_
      refine xk_at v (oG + v) (el := 22) (sz := 1) (by kernel_rfl) (by kernel_rfl) rfl rfl (by omega) (by omega) (by omega) (by decide) ?_
      refine xk_load (by kernel_rfl) rfl (Rd.roc (by simp) hcG) (by decide) ?_
      refine xk_len (el := 3) (by kernel_rfl) rfl (by decide) ?_
      refine xk_lss rfl rfl (by decide) ?_
      refine XK.nilN ?_
      refine XK.if_ rfl (fun hil => ?_) (fun hil => ?_)
      ·
        refine XK.skip ?_
        refine XK.norm ?_
        refine XK.seq ?_
        refine XK.block ?_
        have hil' : i < l.length := by have h' : (i : Int) < (l.length : Int) := hil; omega
        obtain ⟨y, hy⟩ : ∃ y, l[i]? = some y := ⟨_, List.getElem?_eq_getElem hil'⟩
        have hyb := hlt y (List.mem_of_getElem? hy)
        obtain ⟨bI, oI, hAI, hcI⟩ := hsl.intR (by omega)
        subst hAI
        have hcy := hcI i y hy
        refine XK.cutB 42 (False) ?_ ?_
        · skip

          refine XK.region ?_
          refine xk_move rfl (by decide) ?_
          refine xk_move rfl (by decide) ?_
          refine xk_at v (oG + v) (el := 22) (sz := 1) (by kernel_rfl) (by kernel_rfl) rfl rfl (by omega) (by omega) (by omega) (by decide) ?_
          refine xk_load (by kernel_rfl) rfl (Rd.roc (by simp) hcG) (by decide) ?_
          refine xk_move rfl (by decide) ?_
          refine xk_at i (oI + i) (el := 3) (sz := 1) (by kernel_rfl) (by kernel_rfl) rfl rfl (by omega) (by omega) (by omega) (by decide) ?_
          refine xk_load (by kernel_rfl) rfl (Rd.roc (by simp) hcy) (by decide) ?_
          refine xk_lss rfl rfl (by decide) ?_
          refine xk_move rfl (by decide) ?_
          (first | refine xk_split (t := 31) rfl (fun hg => ?_) (fun hg => ?_) | refine xk_splitB (t := 31) rfl (fun hg => ?_) (fun hg => ?_))
          ·
            refine xk_guardF rfl rfl rfl (by decide) ?_
            refine xk_guardF rfl rfl rfl (by decide) ?_
            refine xk_guardF rfl rfl rfl (by decide) ?_
            refine xk_guardF rfl rfl rfl (by decide) ?_
            refine xk_guardF rfl rfl rfl (by decide) ?_
            refine xk_guardF rfl rfl rfl (by decide) ?_
            refine xk_guardF rfl rfl rfl (by decide) ?_
            refine xk_guardF rfl rfl rfl (by decide) ?_
            refine xk_guardF rfl rfl rfl (by decide) ?_
            refine xk_guardF rfl rfl rfl (by decide) ?_
            (first | refine xk_pickT rfl rfl (by decide) ?_ | refine xk_pickF rfl rfl (by decide) ?_)
            refine XK.nilN ?_
            exact XK.meetB (by repeat (first | exact trivial | refine ⟨rfl, ?_⟩)) (by first | (exfalso; omega) | (refine get_iff rfl ⟨fun hh => ?_, fun hh => hh.elim⟩; omega) | (refine get_false rfl ?_; exact id))
          ·
            refine xk_guardT rfl rfl ?_; refine xk_move rfl (by decide) ?_
            refine xk_guardT rfl rfl ?_; refine xk_move rfl (by decide) ?_
            refine xk_guardT rfl rfl ?_; refine xk_at v (oG + v) (el := 22) (sz := 1) (by kernel_rfl) (by kernel_rfl) rfl rfl (by omega) (by omega) (by omega) (by decide) ?_
            refine xk_guardT rfl rfl ?_; refine xk_load (by kernel_rfl) rfl (Rd.roc (by simp) hcG) (by decide) ?_
            refine xk_guardT rfl rfl ?_; refine xk_move rfl (by decide) ?_
            refine xk_guardT rfl rfl ?_; refine xk_at i (oI + i) (el := 3) (sz := 1) (by kernel_rfl) (by kernel_rfl) rfl rfl (by omega) (by omega) (by omega) (by decide) ?_
            refine xk_guardT rfl rfl ?_; refine xk_load (by kernel_rfl) rfl (Rd.roc (by simp) hcy) (by decide) ?_
            refine xk_guardT rfl rfl ?_; refine xk_move rfl (by decide) ?_
            refine xk_guardT rfl rfl ?_; refine xk_len (el := 22) (by kernel_rfl) rfl (by decide) ?_
            refine xk_guardT rfl rfl ?_; refine xk_geq rfl rfl (by decide) ?_
            (first | refine xk_pickT rfl rfl (by decide) ?_ | refine xk_pickF rfl rfl (by decide) ?_)
            refine XK.nilN ?_
            exact XK.meetB (by repeat (first | exact trivial | refine ⟨rfl, ?_⟩)) (by first | (exfalso; omega) | (refine get_iff rfl ⟨fun hh => ?_, fun hh => hh.elim⟩; omega) | (refine get_false rfl ?_; exact id))
        refine XK.cond rfl (fun h => by simp at h) (fun _ => ?_)

        ·
          refine XK.skip ?_
          refine XK.norm ?_

          refine XK.region ?_
          refine xk_move rfl (by decide) ?_
          refine xk_add rfl rfl (wrap_in (by omega)) (by decide) ?_
          refine xk_assign rfl (by decide) ?_
          refine XK.nilN ?_
          exact XK.envS [(4, .int .i64 ((i : Int) + 1)), (3, .int .i64 v), (0, .slice (some ⟨bG, oG, none⟩) n c)] (XK.round (l.length - (i + 1)) (by omega) ⟨i + 1, by omega, rfl, rfl, rfl, rfl⟩)
      ·
        refine XK.exit ?_
        refine XK.norm ?_

        refine XK.region ?_
        refine xk_move rfl (by decide) ?_
        refine xk_add rfl rfl (wrap_in (by omega)) (by decide) ?_
        refine xk_assign rfl (by decide) ?_
        refine XK.nilN ?_
        exact XK.envS [(3, .int .i64 ((v : Int) + 1)), (0, .slice (some ⟨bG, oG, none⟩) n c)] (XK.round (n - (v + 1)) (by omega) ⟨v + 1, by omega, rfl, rfl, rfl, rfl⟩)
    ·
      refine XK.exit ?_
      refine XK.norm ?_
      refine XK.seq ?_
      refine XK.seq ?_

      refine XK.region ?_
      refine xk_move rfl (by decide) ?_
      refine xk_call [] (f := 113) (fi := []) (ca := []) (by kernel_rfl) rfl rfl (by decide) (by simp) (rangeV n) (fun w1 st => refOrder_any _ n c g w1 (hg.le (all_le (st.started (by simp)))) hn hn2 hg2 hless) ?_
      rintro _ w1 q1 ⟨Ao, co, rfl, ho⟩ hf _ hF1
      have ho := ho.le hf
      clear hf
      refine xk_len (el := 3) (by kernel_rfl) rfl (by decide) ?_
      refine xk_move rfl (by decide) ?_
      refine xk_len (el := 22) (by kernel_rfl) rfl (by decide) ?_
      refine xk_lss rfl rfl (by decide) ?_
      refine XK.nilN ?_
      refine XK.if_ rfl (fun h => absurd h (by omega)) (fun h => ?_)

      ·
        refine XK.skip ?_
        refine XK.norm ?_
        refine XK.seq ?_

        refine XK.region ?_
        refine xk_assign rfl (by decide) ?_
        refine XK.nilN ?_
        refine XK.ret ?_
        refine XK.norm ?_
        exact XK.ret1 rfl rfl fun w1 st => ⟨rfl, st.below (by simp)⟩

end Go.Proofs.YtbgibbbggajgaaaGreat
/- The reference's check of a chip that is made. -/
namespace Go.Proofs.YtbgibbbggajgaaaGreat
set_option linter.all false
open Go.RowKit

theorem refIn4_any (v n : Int) (w : World) : Calls Tryz.prog 147 #[.int .i64 v, .int .i64 n] w (Rt (.bool (decide (0 ≤ v ∧ v < n))) w) := by
  refine XK.enter (vs := [.int .i64 v, .int .i64 n]) Tryz.func147 rfl Tryz.ntmps147 (by simp) ?_
  refine XK.seq ?_

  refine XK.region ?_
  refine xk_assign rfl (by decide) ?_
  refine XK.nilN ?_
  refine XK.seq ?_

  refine XK.region ?_
  refine xk_move rfl (by decide) ?_
  refine xk_geq rfl rfl (by decide) ?_
  refine xk_move rfl (by decide) ?_
  refine xk_split (t := 7) rfl (fun hg => ?_) (fun hg => ?_)
  ·
    refine xk_guardT rfl rfl ?_; refine xk_move rfl (by decide) ?_
    refine xk_guardT rfl rfl ?_; refine xk_move rfl (by decide) ?_
    refine xk_guardT rfl rfl ?_; refine xk_lss rfl rfl (by decide) ?_
    (first | refine xk_pickT rfl rfl (by decide) ?_ | refine xk_pickF rfl rfl (by decide) ?_)
    refine xk_assign rfl (by decide) ?_
    refine XK.nilN ?_
    refine XK.ret ?_
    refine XK.norm ?_
    rw [show decide (0 ≤ v ∧ v < n) = decide (v < n) from decide_eq_decide.2 ⟨fun h => h.2, fun h => ⟨hg, h⟩⟩]
    exact XK.ret1 rfl rfl fun w1 st => ⟨rfl, st.below (by simp)⟩
  ·
    refine xk_guardF rfl rfl rfl (by decide) ?_
    refine xk_guardF rfl rfl rfl (by decide) ?_
    refine xk_guardF rfl rfl rfl (by decide) ?_
    (first | refine xk_pickT rfl rfl (by decide) ?_ | refine xk_pickF rfl rfl (by decide) ?_)
    refine xk_assign rfl (by decide) ?_
    refine XK.nilN ?_
    refine XK.ret ?_
    refine XK.norm ?_
    rw [show decide (0 ≤ v ∧ v < n) = false from decide_eq_false (fun h => hg h.1)]
    exact XK.ret1 rfl rfl fun w1 st => ⟨rfl, st.below (by simp)⟩

theorem refWithin_any (v a b : Int) (w : World) : Calls Tryz.prog 121 #[.int .i64 v, .int .i64 a, .int .i64 b] w (Rt (.bool (decide (a ≤ v ∧ v ≤ b))) w) := by
  refine XK.enter (vs := [.int .i64 v, .int .i64 a, .int .i64 b]) Tryz.func121 rfl Tryz.ntmps121 (by simp) ?_
  refine XK.seq ?_

  refine XK.region ?_
  refine xk_assign rfl (by decide) ?_
  refine XK.nilN ?_
  refine XK.seq ?_

  refine XK.region ?_
  refine xk_move rfl (by decide) ?_
  refine xk_move rfl (by decide) ?_
  refine xk_geq rfl rfl (by decide) ?_
  refine xk_move rfl (by decide) ?_
  refine xk_split (t := 10) rfl (fun hg => ?_) (fun hg => ?_)
  ·
    refine xk_guardT rfl rfl ?_; refine xk_move rfl (by decide) ?_
    refine xk_guardT rfl rfl ?_; refine xk_move rfl (by decide) ?_
    refine xk_guardT rfl rfl ?_; refine xk_leq rfl rfl (by decide) ?_
    (first | refine xk_pickT rfl rfl (by decide) ?_ | refine xk_pickF rfl rfl (by decide) ?_)
    refine xk_assign rfl (by decide) ?_
    refine XK.nilN ?_
    refine XK.ret ?_
    refine XK.norm ?_
    rw [show decide (a ≤ v ∧ v ≤ b) = decide (v ≤ b) from decide_eq_decide.2 ⟨fun h => h.2, fun h => ⟨hg, h⟩⟩]
    exact XK.ret1 rfl rfl fun w1 st => ⟨rfl, st.below (by simp)⟩
  ·
    refine xk_guardF rfl rfl rfl (by decide) ?_
    refine xk_guardF rfl rfl rfl (by decide) ?_
    refine xk_guardF rfl rfl rfl (by decide) ?_
    (first | refine xk_pickT rfl rfl (by decide) ?_ | refine xk_pickF rfl rfl (by decide) ?_)
    refine xk_assign rfl (by decide) ?_
    refine XK.nilN ?_
    refine XK.ret ?_
    refine XK.norm ?_
    rw [show decide (a ≤ v ∧ v ≤ b) = false from decide_eq_false (fun h => hg h.1)]
    exact XK.ret1 rfl rfl fun w1 st => ⟨rfl, st.below (by simp)⟩

set_option maxHeartbeats 1000000 in
theorem refClock_any (c : Clk) (k0 nn : Nat) (As : Option Addr) (ns ks : Nat) (w : World) (hs : SlS (all w) 1 As ns (intCells c.src)) (hns : ns = c.src.length) (hf : c.fit k0) (hk : k0 ≤ nn) (hnn : nn ≤ 1000) : Calls Tryz.prog 146 #[.agg #[.int .u8 c.kind, .slice As ns ks, .int .u64 c.rate, .int .i64 c.mul, .int .i64 c.div, .int .i64 c.lock], .int .i64 (nn : Int)] w (Rt (.int .i64 0) w) := by
  have hk9 := hf.1
  have hc : (c.kind = 111 ∧ ns = 0 ∧ 1 ≤ c.rate ∧ c.rate ≤ 1000000) ∨ (c.kind = 112 ∧ ns = 1 ∧ 1 ≤ c.mul ∧ c.mul ≤ 8 ∧ 1 ≤ c.div ∧ c.div ≤ 4 ∧ 0 ≤ c.lock ∧ c.lock ≤ 3) ∨ (c.kind = 100 ∧ ns = 1 ∧ 1 ≤ c.div ∧ c.div ≤ 8) ∨ (c.kind = 103 ∧ ns = 1) ∨ (c.kind = 109 ∧ ns = 2) := by
    rcases hf.2 with h | h | h | h | h
    · exact .inl ⟨h.1, by rw [hns, h.2.1]; rfl, h.2.2.1, h.2.2.2.1⟩
    · omega
    · omega
    · omega
    · omega
  clear hf
  refine XK.enter (vs := [.agg #[.int .u8 c.kind, .slice As ns ks, .int .u64 c.rate, .int .i64 c.mul, .int .i64 c.div, .int .i64 c.lock], .int .i64 (nn : Int)]) Tryz.func146 rfl Tryz.ntmps146 (by simp) ?_
  refine XK.seq ?_

  refine XK.region ?_
  refine xk_box rfl (by decide) fun g1 => ?_
  refine xk_assign rfl (by decide) ?_
  refine XK.nilN ?_
  refine XK.seq ?_

  refine XK.region ?_
  refine xk_field (off := 1) (by kernel_rfl) rfl (by decide) ?_
  refine xk_ld rfl ?_
  refine xk_len (el := 3) (by kernel_rfl) rfl (by decide) ?_
  refine xk_assign rfl (by decide) ?_
  refine XK.nilN ?_
  refine XK.cutB 6 (True) ?_ ?_
  · skip

    refine XK.region ?_
    refine xk_field (off := 0) (by kernel_rfl) rfl (by decide) ?_
    refine xk_ld rfl ?_
    refine xk_eql rfl rfl (by decide) ?_
    refine xk_move rfl (by decide) ?_
    refine xk_split (t := 14) rfl (fun hg14 => ?_) (fun hg14 => ?_)
    ·
      refine xk_guardT rfl rfl ?_; refine xk_move rfl (by decide) ?_
      refine xk_guardT rfl rfl ?_; refine xk_eql rfl rfl (by decide) ?_
      (first | refine xk_pickT rfl rfl (by decide) ?_ | refine xk_pickF rfl rfl (by decide) ?_)
      refine xk_move rfl (by decide) ?_
      refine xk_split (t := 18) rfl (fun hg18 => ?_) (fun hg18 => ?_)
      ·
        refine xk_guardF rfl rfl rfl (by decide) ?_
        refine xk_guardF rfl rfl rfl (by decide) ?_
        refine xk_guardF rfl rfl rfl (by decide) ?_
        refine xk_guardF rfl rfl rfl (by decide) ?_
        refine xk_guardU rfl rfl (by decide) ?_
        refine xk_guardU rfl rfl (by decide) ?_
        refine xk_guardU rfl rfl (by decide) ?_
        refine xk_guardF rfl rfl rfl (by decide) ?_
        refine xk_guardF rfl rfl rfl (by decide) ?_
        refine xk_guardU rfl rfl (by decide) ?_
        refine xk_guardU rfl rfl (by decide) ?_
        refine xk_guardU rfl rfl (by decide) ?_
        refine xk_guardF rfl rfl rfl (by decide) ?_
        refine xk_guardF rfl rfl rfl (by decide) ?_
        refine xk_guardU rfl rfl (by decide) ?_
        refine xk_guardU rfl rfl (by decide) ?_
        refine xk_guardF rfl rfl rfl (by decide) ?_
        (first | refine xk_pickT rfl rfl (by decide) ?_ | refine xk_pickF rfl rfl (by decide) ?_)
        refine xk_move rfl (by decide) ?_
        refine xk_guardF rfl rfl rfl (by decide) ?_
        refine xk_guardF rfl rfl rfl (by decide) ?_
        refine xk_guardF rfl rfl rfl (by decide) ?_
        refine xk_guardF rfl rfl rfl (by decide) ?_
        refine xk_guardU rfl rfl (by decide) ?_
        refine xk_guardU rfl rfl (by decide) ?_
        refine xk_guardF rfl rfl rfl (by decide) ?_
        (first | refine xk_pickT rfl rfl (by decide) ?_ | refine xk_pickF rfl rfl (by decide) ?_)
        refine xk_assign rfl (by decide) ?_
        refine XK.nilN ?_
        exact XK.meetB (by repeat (first | exact trivial | refine ⟨rfl, ?_⟩)) (by first | (exfalso; omega) | (refine get_iff rfl ⟨fun _ => trivial, fun _ => ?_⟩; omega) | (refine get_iff rfl ⟨fun hh => ?_, fun hh => hh.elim⟩; omega) | exact get_true rfl trivial | (refine get_false rfl ?_; exact id))
      ·
        refine xk_guardT rfl rfl ?_; refine xk_field (off := 0) (by kernel_rfl) rfl (by decide) ?_
        refine xk_guardT rfl rfl ?_; refine xk_ld rfl ?_
        refine xk_guardT rfl rfl ?_; refine xk_eql rfl rfl (by decide) ?_
        refine xk_guardT rfl rfl ?_; refine xk_move rfl (by decide) ?_
        refine xk_split (t := 22) rfl (fun hg22 => ?_) (fun hg22 => ?_)
        ·
          refine xk_guardF rfl rfl rfl (by decide) ?_
          refine xk_guardF rfl rfl rfl (by decide) ?_
          refine xk_guardF rfl rfl rfl (by decide) ?_
          refine xk_guardT rfl rfl ?_; (first | refine xk_pickT rfl rfl (by decide) ?_ | refine xk_pickF rfl rfl (by decide) ?_)
          refine xk_guardT rfl rfl ?_; refine xk_move rfl (by decide) ?_
          refine xk_guardF rfl rfl rfl (by decide) ?_
          refine xk_guardF rfl rfl rfl (by decide) ?_
          refine xk_guardF rfl rfl rfl (by decide) ?_
          refine xk_guardT rfl rfl ?_; (first | refine xk_pickT rfl rfl (by decide) ?_ | refine xk_pickF rfl rfl (by decide) ?_)
          refine xk_guardT rfl rfl ?_; refine xk_move rfl (by decide) ?_
          refine xk_guardT rfl rfl ?_; refine xk_move rfl (by decide) ?_
          refine xk_guardT rfl rfl ?_; refine xk_eql rfl rfl (by decide) ?_
          refine xk_guardT rfl rfl ?_; (first | refine xk_pickT rfl rfl (by decide) ?_ | refine xk_pickF rfl rfl (by decide) ?_)
          (first | refine xk_pickT rfl rfl (by decide) ?_ | refine xk_pickF rfl rfl (by decide) ?_)
          refine xk_move rfl (by decide) ?_
          refine xk_split (t := 37) rfl (fun hg37 => ?_) (fun hg37 => ?_)
          ·
            refine xk_guardF rfl rfl rfl (by decide) ?_
            refine xk_guardF rfl rfl rfl (by decide) ?_
            refine xk_guardF rfl rfl rfl (by decide) ?_
            refine xk_guardF rfl rfl rfl (by decide) ?_
            refine xk_guardU rfl rfl (by decide) ?_
            refine xk_guardU rfl rfl (by decide) ?_
            refine xk_guardF rfl rfl rfl (by decide) ?_
            (first | refine xk_pickT rfl rfl (by decide) ?_ | refine xk_pickF rfl rfl (by decide) ?_)
            refine xk_assign rfl (by decide) ?_
            refine XK.nilN ?_
            exact XK.meetB (by repeat (first | exact trivial | refine ⟨rfl, ?_⟩)) (by first | (exfalso; omega) | (refine get_iff rfl ⟨fun _ => trivial, fun _ => ?_⟩; omega) | (refine get_iff rfl ⟨fun hh => ?_, fun hh => hh.elim⟩; omega) | exact get_true rfl trivial | (refine get_false rfl ?_; exact id))
          ·
            refine xk_guardT rfl rfl ?_; refine xk_field (off := 0) (by kernel_rfl) rfl (by decide) ?_
            refine xk_guardT rfl rfl ?_; refine xk_ld rfl ?_
            refine xk_guardT rfl rfl ?_; refine xk_eql rfl rfl (by decide) ?_
            refine xk_guardT rfl rfl ?_; refine xk_move rfl (by decide) ?_
            refine xk_split (t := 41) rfl (fun hg41 => ?_) (fun hg41 => ?_)
            ·
              refine xk_guardT rfl rfl ?_; refine xk_move rfl (by decide) ?_
              refine xk_guardT rfl rfl ?_; refine xk_callR (f := 121) (fi := []) (ca := []) (by kernel_rfl) rfl rfl (by decide) (fun w1 st => refWithin_any _ _ _ w1) ?_
              refine xk_guardT rfl rfl ?_; (first | refine xk_pickT rfl rfl (by decide) ?_ | refine xk_pickF rfl rfl (by decide) ?_)
              (first | refine xk_pickT rfl rfl (by decide) ?_ | refine xk_pickF rfl rfl (by decide) ?_)
              refine xk_assign rfl (by decide) ?_
              refine XK.nilN ?_
              exact XK.meetB (by repeat (first | exact trivial | refine ⟨rfl, ?_⟩)) (by first | (exfalso; omega) | (refine get_iff rfl ⟨fun _ => trivial, fun _ => ?_⟩; omega) | (refine get_iff rfl ⟨fun hh => ?_, fun hh => hh.elim⟩; omega) | exact get_true rfl trivial | (refine get_false rfl ?_; exact id))
            ·
              refine xk_guardF rfl rfl rfl (by decide) ?_
              refine xk_guardF rfl rfl rfl (by decide) ?_
              refine xk_guardT rfl rfl ?_; (first | refine xk_pickT rfl rfl (by decide) ?_ | refine xk_pickF rfl rfl (by decide) ?_)
              (first | refine xk_pickT rfl rfl (by decide) ?_ | refine xk_pickF rfl rfl (by decide) ?_)
              refine xk_assign rfl (by decide) ?_
              refine XK.nilN ?_
              exact XK.meetB (by repeat (first | exact trivial | refine ⟨rfl, ?_⟩)) (by first | (exfalso; omega) | (refine get_iff rfl ⟨fun _ => trivial, fun _ => ?_⟩; omega) | (refine get_iff rfl ⟨fun hh => ?_, fun hh => hh.elim⟩; omega) | exact get_true rfl trivial | (refine get_false rfl ?_; exact id))
        ·
          refine xk_guardT rfl rfl ?_; refine xk_field (off := 0) (by kernel_rfl) rfl (by decide) ?_
          refine xk_guardT rfl rfl ?_; refine xk_ld rfl ?_
          refine xk_guardT rfl rfl ?_; refine xk_eql rfl rfl (by decide) ?_
          refine xk_guardT rfl rfl ?_; (first | refine xk_pickT rfl rfl (by decide) ?_ | refine xk_pickF rfl rfl (by decide) ?_)
          refine xk_guardT rfl rfl ?_; refine xk_move rfl (by decide) ?_
          refine xk_split (t := 27) rfl (fun hg27 => ?_) (fun hg27 => ?_)
          ·
            refine xk_guardF rfl rfl rfl (by decide) ?_
            refine xk_guardF rfl rfl rfl (by decide) ?_
            refine xk_guardF rfl rfl rfl (by decide) ?_
            refine xk_guardT rfl rfl ?_; (first | refine xk_pickT rfl rfl (by decide) ?_ | refine xk_pickF rfl rfl (by decide) ?_)
            refine xk_guardT rfl rfl ?_; refine xk_move rfl (by decide) ?_
            refine xk_guardT rfl rfl ?_; refine xk_move rfl (by decide) ?_
            refine xk_guardT rfl rfl ?_; refine xk_eql rfl rfl (by decide) ?_
            refine xk_guardT rfl rfl ?_; (first | refine xk_pickT rfl rfl (by decide) ?_ | refine xk_pickF rfl rfl (by decide) ?_)
            (first | refine xk_pickT rfl rfl (by decide) ?_ | refine xk_pickF rfl rfl (by decide) ?_)
            refine xk_move rfl (by decide) ?_
            refine xk_split (t := 37) rfl (fun hg37 => ?_) (fun hg37 => ?_)
            ·
              refine xk_guardF rfl rfl rfl (by decide) ?_
              refine xk_guardF rfl rfl rfl (by decide) ?_
              refine xk_guardF rfl rfl rfl (by decide) ?_
              refine xk_guardF rfl rfl rfl (by decide) ?_
              refine xk_guardU rfl rfl (by decide) ?_
              refine xk_guardU rfl rfl (by decide) ?_
              refine xk_guardF rfl rfl rfl (by decide) ?_
              (first | refine xk_pickT rfl rfl (by decide) ?_ | refine xk_pickF rfl rfl (by decide) ?_)
              refine xk_assign rfl (by decide) ?_
              refine XK.nilN ?_
              exact XK.meetB (by repeat (first | exact trivial | refine ⟨rfl, ?_⟩)) (by first | (exfalso; omega) | (refine get_iff rfl ⟨fun _ => trivial, fun _ => ?_⟩; omega) | (refine get_iff rfl ⟨fun hh => ?_, fun hh => hh.elim⟩; omega) | exact get_true rfl trivial | (refine get_false rfl ?_; exact id))
            ·
              refine xk_guardT rfl rfl ?_; refine xk_field (off := 0) (by kernel_rfl) rfl (by decide) ?_
              refine xk_guardT rfl rfl ?_; refine xk_ld rfl ?_
              refine xk_guardT rfl rfl ?_; refine xk_eql rfl rfl (by decide) ?_
              refine xk_guardT rfl rfl ?_; refine xk_move rfl (by decide) ?_
              refine xk_split (t := 41) rfl (fun hg41 => ?_) (fun hg41 => ?_)
              ·
                refine xk_guardT rfl rfl ?_; refine xk_move rfl (by decide) ?_
                refine xk_guardT rfl rfl ?_; refine xk_callR (f := 121) (fi := []) (ca := []) (by kernel_rfl) rfl rfl (by decide) (fun w1 st => refWithin_any _ _ _ w1) ?_
                refine xk_guardT rfl rfl ?_; (first | refine xk_pickT rfl rfl (by decide) ?_ | refine xk_pickF rfl rfl (by decide) ?_)
                (first | refine xk_pickT rfl rfl (by decide) ?_ | refine xk_pickF rfl rfl (by decide) ?_)
                refine xk_assign rfl (by decide) ?_
                refine XK.nilN ?_
                exact XK.meetB (by repeat (first | exact trivial | refine ⟨rfl, ?_⟩)) (by first | (exfalso; omega) | (refine get_iff rfl ⟨fun _ => trivial, fun _ => ?_⟩; omega) | (refine get_iff rfl ⟨fun hh => ?_, fun hh => hh.elim⟩; omega) | exact get_true rfl trivial | (refine get_false rfl ?_; exact id))
              ·
                refine xk_guardF rfl rfl rfl (by decide) ?_
                refine xk_guardF rfl rfl rfl (by decide) ?_
                refine xk_guardT rfl rfl ?_; (first | refine xk_pickT rfl rfl (by decide) ?_ | refine xk_pickF rfl rfl (by decide) ?_)
                (first | refine xk_pickT rfl rfl (by decide) ?_ | refine xk_pickF rfl rfl (by decide) ?_)
                refine xk_assign rfl (by decide) ?_
                refine XK.nilN ?_
                exact XK.meetB (by repeat (first | exact trivial | refine ⟨rfl, ?_⟩)) (by first | (exfalso; omega) | (refine get_iff rfl ⟨fun _ => trivial, fun _ => ?_⟩; omega) | (refine get_iff rfl ⟨fun hh => ?_, fun hh => hh.elim⟩; omega) | exact get_true rfl trivial | (refine get_false rfl ?_; exact id))
          ·
            refine xk_guardT rfl rfl ?_; refine xk_field (off := 0) (by kernel_rfl) rfl (by decide) ?_
            refine xk_guardT rfl rfl ?_; refine xk_ld rfl ?_
            refine xk_guardT rfl rfl ?_; refine xk_eql rfl rfl (by decide) ?_
            refine xk_guardT rfl rfl ?_; (first | refine xk_pickT rfl rfl (by decide) ?_ | refine xk_pickF rfl rfl (by decide) ?_)
            refine xk_guardT rfl rfl ?_; refine xk_move rfl (by decide) ?_
            refine xk_split (t := 32) rfl (fun hg32 => ?_) (fun hg32 => ?_)
            ·
              refine xk_guardT rfl rfl ?_; refine xk_move rfl (by decide) ?_
              refine xk_guardT rfl rfl ?_; refine xk_eql rfl rfl (by decide) ?_
              refine xk_guardT rfl rfl ?_; (first | refine xk_pickT rfl rfl (by decide) ?_ | refine xk_pickF rfl rfl (by decide) ?_)
              (first | refine xk_pickT rfl rfl (by decide) ?_ | refine xk_pickF rfl rfl (by decide) ?_)
              refine xk_move rfl (by decide) ?_
              refine xk_split (t := 37) rfl (fun hg37 => ?_) (fun hg37 => ?_)
              ·
                refine xk_guardF rfl rfl rfl (by decide) ?_
                refine xk_guardF rfl rfl rfl (by decide) ?_
                refine xk_guardF rfl rfl rfl (by decide) ?_
                refine xk_guardF rfl rfl rfl (by decide) ?_
                refine xk_guardU rfl rfl (by decide) ?_
                refine xk_guardU rfl rfl (by decide) ?_
                refine xk_guardF rfl rfl rfl (by decide) ?_
                (first | refine xk_pickT rfl rfl (by decide) ?_ | refine xk_pickF rfl rfl (by decide) ?_)
                refine xk_assign rfl (by decide) ?_
                refine XK.nilN ?_
                exact XK.meetB (by repeat (first | exact trivial | refine ⟨rfl, ?_⟩)) (by first | (exfalso; omega) | (refine get_iff rfl ⟨fun _ => trivial, fun _ => ?_⟩; omega) | (refine get_iff rfl ⟨fun hh => ?_, fun hh => hh.elim⟩; omega) | exact get_true rfl trivial | (refine get_false rfl ?_; exact id))
              ·
                refine xk_guardT rfl rfl ?_; refine xk_field (off := 0) (by kernel_rfl) rfl (by decide) ?_
                refine xk_guardT rfl rfl ?_; refine xk_ld rfl ?_
                refine xk_guardT rfl rfl ?_; refine xk_eql rfl rfl (by decide) ?_
                refine xk_guardT rfl rfl ?_; refine xk_move rfl (by decide) ?_
                refine xk_split (t := 41) rfl (fun hg41 => ?_) (fun hg41 => ?_)
                ·
                  refine xk_guardT rfl rfl ?_; refine xk_move rfl (by decide) ?_
                  refine xk_guardT rfl rfl ?_; refine xk_callR (f := 121) (fi := []) (ca := []) (by kernel_rfl) rfl rfl (by decide) (fun w1 st => refWithin_any _ _ _ w1) ?_
                  refine xk_guardT rfl rfl ?_; (first | refine xk_pickT rfl rfl (by decide) ?_ | refine xk_pickF rfl rfl (by decide) ?_)
                  (first | refine xk_pickT rfl rfl (by decide) ?_ | refine xk_pickF rfl rfl (by decide) ?_)
                  refine xk_assign rfl (by decide) ?_
                  refine XK.nilN ?_
                  exact XK.meetB (by repeat (first | exact trivial | refine ⟨rfl, ?_⟩)) (by first | (exfalso; omega) | (refine get_iff rfl ⟨fun _ => trivial, fun _ => ?_⟩; omega) | (refine get_iff rfl ⟨fun hh => ?_, fun hh => hh.elim⟩; omega) | exact get_true rfl trivial | (refine get_false rfl ?_; exact id))
                ·
                  refine xk_guardF rfl rfl rfl (by decide) ?_
                  refine xk_guardF rfl rfl rfl (by decide) ?_
                  refine xk_guardT rfl rfl ?_; (first | refine xk_pickT rfl rfl (by decide) ?_ | refine xk_pickF rfl rfl (by decide) ?_)
                  (first | refine xk_pickT rfl rfl (by decide) ?_ | refine xk_pickF rfl rfl (by decide) ?_)
                  refine xk_assign rfl (by decide) ?_
                  refine XK.nilN ?_
                  exact XK.meetB (by repeat (first | exact trivial | refine ⟨rfl, ?_⟩)) (by first | (exfalso; omega) | (refine get_iff rfl ⟨fun _ => trivial, fun _ => ?_⟩; omega) | (refine get_iff rfl ⟨fun hh => ?_, fun hh => hh.elim⟩; omega) | exact get_true rfl trivial | (refine get_false rfl ?_; exact id))
            ·
              refine xk_guardF rfl rfl rfl (by decide) ?_
              refine xk_guardF rfl rfl rfl (by decide) ?_
              refine xk_guardT rfl rfl ?_; (first | refine xk_pickT rfl rfl (by decide) ?_ | refine xk_pickF rfl rfl (by decide) ?_)
              (first | refine xk_pickT rfl rfl (by decide) ?_ | refine xk_pickF rfl rfl (by decide) ?_)
              refine xk_move rfl (by decide) ?_
              refine xk_guardT rfl rfl ?_; refine xk_field (off := 0) (by kernel_rfl) rfl (by decide) ?_
              refine xk_guardT rfl rfl ?_; refine xk_ld rfl ?_
              refine xk_guardT rfl rfl ?_; refine xk_eql rfl rfl (by decide) ?_
              refine xk_guardT rfl rfl ?_; refine xk_move rfl (by decide) ?_
              refine xk_split (t := 41) rfl (fun hg41 => ?_) (fun hg41 => ?_)
              ·
                refine xk_guardT rfl rfl ?_; refine xk_move rfl (by decide) ?_
                refine xk_guardT rfl rfl ?_; refine xk_callR (f := 121) (fi := []) (ca := []) (by kernel_rfl) rfl rfl (by decide) (fun w1 st => refWithin_any _ _ _ w1) ?_
                refine xk_guardT rfl rfl ?_; (first | refine xk_pickT rfl rfl (by decide) ?_ | refine xk_pickF rfl rfl (by decide) ?_)
                (first | refine xk_pickT rfl rfl (by decide) ?_ | refine xk_pickF rfl rfl (by decide) ?_)
                refine xk_assign rfl (by decide) ?_
                refine XK.nilN ?_
                exact XK.meetB (by repeat (first | exact trivial | refine ⟨rfl, ?_⟩)) (by first | (exfalso; omega) | (refine get_iff rfl ⟨fun _ => trivial, fun _ => ?_⟩; omega) | (refine get_iff rfl ⟨fun hh => ?_, fun hh => hh.elim⟩; omega) | exact get_true rfl trivial | (refine get_false rfl ?_; exact id))
              ·
                refine xk_guardF rfl rfl rfl (by decide) ?_
                refine xk_guardF rfl rfl rfl (by decide) ?_
                refine xk_guardT rfl rfl ?_; (first | refine xk_pickT rfl rfl (by decide) ?_ | refine xk_pickF rfl rfl (by decide) ?_)
                (first | refine xk_pickT rfl rfl (by decide) ?_ | refine xk_pickF rfl rfl (by decide) ?_)
                refine xk_assign rfl (by decide) ?_
                refine XK.nilN ?_
                exact XK.meetB (by repeat (first | exact trivial | refine ⟨rfl, ?_⟩)) (by first | (exfalso; omega) | (refine get_iff rfl ⟨fun _ => trivial, fun _ => ?_⟩; omega) | (refine get_iff rfl ⟨fun hh => ?_, fun hh => hh.elim⟩; omega) | exact get_true rfl trivial | (refine get_false rfl ?_; exact id))
    ·
      refine xk_guardF rfl rfl rfl (by decide) ?_
      refine xk_guardF rfl rfl rfl (by decide) ?_
      (first | refine xk_pickT rfl rfl (by decide) ?_ | refine xk_pickF rfl rfl (by decide) ?_)
      refine xk_move rfl (by decide) ?_
      refine xk_guardT rfl rfl ?_; refine xk_field (off := 0) (by kernel_rfl) rfl (by decide) ?_
      refine xk_guardT rfl rfl ?_; refine xk_ld rfl ?_
      refine xk_guardT rfl rfl ?_; refine xk_eql rfl rfl (by decide) ?_
      refine xk_guardT rfl rfl ?_; refine xk_move rfl (by decide) ?_
      refine xk_split (t := 22) rfl (fun hg22 => ?_) (fun hg22 => ?_)
      ·
        refine xk_guardF rfl rfl rfl (by decide) ?_
        refine xk_guardF rfl rfl rfl (by decide) ?_
        refine xk_guardF rfl rfl rfl (by decide) ?_
        refine xk_guardT rfl rfl ?_; (first | refine xk_pickT rfl rfl (by decide) ?_ | refine xk_pickF rfl rfl (by decide) ?_)
        refine xk_guardT rfl rfl ?_; refine xk_move rfl (by decide) ?_
        refine xk_guardF rfl rfl rfl (by decide) ?_
        refine xk_guardF rfl rfl rfl (by decide) ?_
        refine xk_guardF rfl rfl rfl (by decide) ?_
        refine xk_guardT rfl rfl ?_; (first | refine xk_pickT rfl rfl (by decide) ?_ | refine xk_pickF rfl rfl (by decide) ?_)
        refine xk_guardT rfl rfl ?_; refine xk_move rfl (by decide) ?_
        refine xk_guardT rfl rfl ?_; refine xk_move rfl (by decide) ?_
        refine xk_guardT rfl rfl ?_; refine xk_eql rfl rfl (by decide) ?_
        refine xk_guardT rfl rfl ?_; (first | refine xk_pickT rfl rfl (by decide) ?_ | refine xk_pickF rfl rfl (by decide) ?_)
        (first | refine xk_pickT rfl rfl (by decide) ?_ | refine xk_pickF rfl rfl (by decide) ?_)
        refine xk_move rfl (by decide) ?_
        refine xk_split (t := 37) rfl (fun hg37 => ?_) (fun hg37 => ?_)
        ·
          refine xk_guardF rfl rfl rfl (by decide) ?_
          refine xk_guardF rfl rfl rfl (by decide) ?_
          refine xk_guardF rfl rfl rfl (by decide) ?_
          refine xk_guardF rfl rfl rfl (by decide) ?_
          refine xk_guardU rfl rfl (by decide) ?_
          refine xk_guardU rfl rfl (by decide) ?_
          refine xk_guardF rfl rfl rfl (by decide) ?_
          (first | refine xk_pickT rfl rfl (by decide) ?_ | refine xk_pickF rfl rfl (by decide) ?_)
          refine xk_assign rfl (by decide) ?_
          refine XK.nilN ?_
          exact XK.meetB (by repeat (first | exact trivial | refine ⟨rfl, ?_⟩)) (by first | (exfalso; omega) | (refine get_iff rfl ⟨fun _ => trivial, fun _ => ?_⟩; omega) | (refine get_iff rfl ⟨fun hh => ?_, fun hh => hh.elim⟩; omega) | exact get_true rfl trivial | (refine get_false rfl ?_; exact id))
        ·
          refine xk_guardT rfl rfl ?_; refine xk_field (off := 0) (by kernel_rfl) rfl (by decide) ?_
          refine xk_guardT rfl rfl ?_; refine xk_ld rfl ?_
          refine xk_guardT rfl rfl ?_; refine xk_eql rfl rfl (by decide) ?_
          refine xk_guardT rfl rfl ?_; refine xk_move rfl (by decide) ?_
          refine xk_split (t := 41) rfl (fun hg41 => ?_) (fun hg41 => ?_)
          ·
            refine xk_guardT rfl rfl ?_; refine xk_move rfl (by decide) ?_
            refine xk_guardT rfl rfl ?_; refine xk_callR (f := 121) (fi := []) (ca := []) (by kernel_rfl) rfl rfl (by decide) (fun w1 st => refWithin_any _ _ _ w1) ?_
            refine xk_guardT rfl rfl ?_; (first | refine xk_pickT rfl rfl (by decide) ?_ | refine xk_pickF rfl rfl (by decide) ?_)
            (first | refine xk_pickT rfl rfl (by decide) ?_ | refine xk_pickF rfl rfl (by decide) ?_)
            refine xk_assign rfl (by decide) ?_
            refine XK.nilN ?_
            exact XK.meetB (by repeat (first | exact trivial | refine ⟨rfl, ?_⟩)) (by first | (exfalso; omega) | (refine get_iff rfl ⟨fun _ => trivial, fun _ => ?_⟩; omega) | (refine get_iff rfl ⟨fun hh => ?_, fun hh => hh.elim⟩; omega) | exact get_true rfl trivial | (refine get_false rfl ?_; exact id))
          ·
            refine xk_guardF rfl rfl rfl (by decide) ?_
            refine xk_guardF rfl rfl rfl (by decide) ?_
            refine xk_guardT rfl rfl ?_; (first | refine xk_pickT rfl rfl (by decide) ?_ | refine xk_pickF rfl rfl (by decide) ?_)
            (first | refine xk_pickT rfl rfl (by decide) ?_ | refine xk_pickF rfl rfl (by decide) ?_)
            refine xk_assign rfl (by decide) ?_
            refine XK.nilN ?_
            exact XK.meetB (by repeat (first | exact trivial | refine ⟨rfl, ?_⟩)) (by first | (exfalso; omega) | (refine get_iff rfl ⟨fun _ => trivial, fun _ => ?_⟩; omega) | (refine get_iff rfl ⟨fun hh => ?_, fun hh => hh.elim⟩; omega) | exact get_true rfl trivial | (refine get_false rfl ?_; exact id))
      ·
        refine xk_guardT rfl rfl ?_; refine xk_field (off := 0) (by kernel_rfl) rfl (by decide) ?_
        refine xk_guardT rfl rfl ?_; refine xk_ld rfl ?_
        refine xk_guardT rfl rfl ?_; refine xk_eql rfl rfl (by decide) ?_
        refine xk_guardT rfl rfl ?_; (first | refine xk_pickT rfl rfl (by decide) ?_ | refine xk_pickF rfl rfl (by decide) ?_)
        refine xk_guardT rfl rfl ?_; refine xk_move rfl (by decide) ?_
        refine xk_split (t := 27) rfl (fun hg27 => ?_) (fun hg27 => ?_)
        ·
          refine xk_guardF rfl rfl rfl (by decide) ?_
          refine xk_guardF rfl rfl rfl (by decide) ?_
          refine xk_guardF rfl rfl rfl (by decide) ?_
          refine xk_guardT rfl rfl ?_; (first | refine xk_pickT rfl rfl (by decide) ?_ | refine xk_pickF rfl rfl (by decide) ?_)
          refine xk_guardT rfl rfl ?_; refine xk_move rfl (by decide) ?_
          refine xk_guardT rfl rfl ?_; refine xk_move rfl (by decide) ?_
          refine xk_guardT rfl rfl ?_; refine xk_eql rfl rfl (by decide) ?_
          refine xk_guardT rfl rfl ?_; (first | refine xk_pickT rfl rfl (by decide) ?_ | refine xk_pickF rfl rfl (by decide) ?_)
          (first | refine xk_pickT rfl rfl (by decide) ?_ | refine xk_pickF rfl rfl (by decide) ?_)
          refine xk_move rfl (by decide) ?_
          refine xk_split (t := 37) rfl (fun hg37 => ?_) (fun hg37 => ?_)
          ·
            refine xk_guardF rfl rfl rfl (by decide) ?_
            refine xk_guardF rfl rfl rfl (by decide) ?_
            refine xk_guardF rfl rfl rfl (by decide) ?_
            refine xk_guardF rfl rfl rfl (by decide) ?_
            refine xk_guardU rfl rfl (by decide) ?_
            refine xk_guardU rfl rfl (by decide) ?_
            refine xk_guardF rfl rfl rfl (by decide) ?_
            (first | refine xk_pickT rfl rfl (by decide) ?_ | refine xk_pickF rfl rfl (by decide) ?_)
            refine xk_assign rfl (by decide) ?_
            refine XK.nilN ?_
            exact XK.meetB (by repeat (first | exact trivial | refine ⟨rfl, ?_⟩)) (by first | (exfalso; omega) | (refine get_iff rfl ⟨fun _ => trivial, fun _ => ?_⟩; omega) | (refine get_iff rfl ⟨fun hh => ?_, fun hh => hh.elim⟩; omega) | exact get_true rfl trivial | (refine get_false rfl ?_; exact id))
          ·
            refine xk_guardT rfl rfl ?_; refine xk_field (off := 0) (by kernel_rfl) rfl (by decide) ?_
            refine xk_guardT rfl rfl ?_; refine xk_ld rfl ?_
            refine xk_guardT rfl rfl ?_; refine xk_eql rfl rfl (by decide) ?_
            refine xk_guardT rfl rfl ?_; refine xk_move rfl (by decide) ?_
            refine xk_split (t := 41) rfl (fun hg41 => ?_) (fun hg41 => ?_)
            ·
              refine xk_guardT rfl rfl ?_; refine xk_move rfl (by decide) ?_
              refine xk_guardT rfl rfl ?_; refine xk_callR (f := 121) (fi := []) (ca := []) (by kernel_rfl) rfl rfl (by decide) (fun w1 st => refWithin_any _ _ _ w1) ?_
              refine xk_guardT rfl rfl ?_; (first | refine xk_pickT rfl rfl (by decide) ?_ | refine xk_pickF rfl rfl (by decide) ?_)
              (first | refine xk_pickT rfl rfl (by decide) ?_ | refine xk_pickF rfl rfl (by decide) ?_)
              refine xk_assign rfl (by decide) ?_
              refine XK.nilN ?_
              exact XK.meetB (by repeat (first | exact trivial | refine ⟨rfl, ?_⟩)) (by first | (exfalso; omega) | (refine get_iff rfl ⟨fun _ => trivial, fun _ => ?_⟩; omega) | (refine get_iff rfl ⟨fun hh => ?_, fun hh => hh.elim⟩; omega) | exact get_true rfl trivial | (refine get_false rfl ?_; exact id))
            ·
              refine xk_guardF rfl rfl rfl (by decide) ?_
              refine xk_guardF rfl rfl rfl (by decide) ?_
              refine xk_guardT rfl rfl ?_; (first | refine xk_pickT rfl rfl (by decide) ?_ | refine xk_pickF rfl rfl (by decide) ?_)
              (first | refine xk_pickT rfl rfl (by decide) ?_ | refine xk_pickF rfl rfl (by decide) ?_)
              refine xk_assign rfl (by decide) ?_
              refine XK.nilN ?_
              exact XK.meetB (by repeat (first | exact trivial | refine ⟨rfl, ?_⟩)) (by first | (exfalso; omega) | (refine get_iff rfl ⟨fun _ => trivial, fun _ => ?_⟩; omega) | (refine get_iff rfl ⟨fun hh => ?_, fun hh => hh.elim⟩; omega) | exact get_true rfl trivial | (refine get_false rfl ?_; exact id))
        ·
          refine xk_guardT rfl rfl ?_; refine xk_field (off := 0) (by kernel_rfl) rfl (by decide) ?_
          refine xk_guardT rfl rfl ?_; refine xk_ld rfl ?_
          refine xk_guardT rfl rfl ?_; refine xk_eql rfl rfl (by decide) ?_
          refine xk_guardT rfl rfl ?_; (first | refine xk_pickT rfl rfl (by decide) ?_ | refine xk_pickF rfl rfl (by decide) ?_)
          refine xk_guardT rfl rfl ?_; refine xk_move rfl (by decide) ?_
          refine xk_split (t := 32) rfl (fun hg32 => ?_) (fun hg32 => ?_)
          ·
            refine xk_guardT rfl rfl ?_; refine xk_move rfl (by decide) ?_
            refine xk_guardT rfl rfl ?_; refine xk_eql rfl rfl (by decide) ?_
            refine xk_guardT rfl rfl ?_; (first | refine xk_pickT rfl rfl (by decide) ?_ | refine xk_pickF rfl rfl (by decide) ?_)
            (first | refine xk_pickT rfl rfl (by decide) ?_ | refine xk_pickF rfl rfl (by decide) ?_)
            refine xk_move rfl (by decide) ?_
            refine xk_split (t := 37) rfl (fun hg37 => ?_) (fun hg37 => ?_)
            ·
              refine xk_guardF rfl rfl rfl (by decide) ?_
              refine xk_guardF rfl rfl rfl (by decide) ?_
              refine xk_guardF rfl rfl rfl (by decide) ?_
              refine xk_guardF rfl rfl rfl (by decide) ?_
              refine xk_guardU rfl rfl (by decide) ?_
              refine xk_guardU rfl rfl (by decide) ?_
              refine xk_guardF rfl rfl rfl (by decide) ?_
              (first | refine xk_pickT rfl rfl (by decide) ?_ | refine xk_pickF rfl rfl (by decide) ?_)
              refine xk_assign rfl (by decide) ?_
              refine XK.nilN ?_
              exact XK.meetB (by repeat (first | exact trivial | refine ⟨rfl, ?_⟩)) (by first | (exfalso; omega) | (refine get_iff rfl ⟨fun _ => trivial, fun _ => ?_⟩; omega) | (refine get_iff rfl ⟨fun hh => ?_, fun hh => hh.elim⟩; omega) | exact get_true rfl trivial | (refine get_false rfl ?_; exact id))
            ·
              refine xk_guardT rfl rfl ?_; refine xk_field (off := 0) (by kernel_rfl) rfl (by decide) ?_
              refine xk_guardT rfl rfl ?_; refine xk_ld rfl ?_
              refine xk_guardT rfl rfl ?_; refine xk_eql rfl rfl (by decide) ?_
              refine xk_guardT rfl rfl ?_; refine xk_move rfl (by decide) ?_
              refine xk_split (t := 41) rfl (fun hg41 => ?_) (fun hg41 => ?_)
              ·
                refine xk_guardT rfl rfl ?_; refine xk_move rfl (by decide) ?_
                refine xk_guardT rfl rfl ?_; refine xk_callR (f := 121) (fi := []) (ca := []) (by kernel_rfl) rfl rfl (by decide) (fun w1 st => refWithin_any _ _ _ w1) ?_
                refine xk_guardT rfl rfl ?_; (first | refine xk_pickT rfl rfl (by decide) ?_ | refine xk_pickF rfl rfl (by decide) ?_)
                (first | refine xk_pickT rfl rfl (by decide) ?_ | refine xk_pickF rfl rfl (by decide) ?_)
                refine xk_assign rfl (by decide) ?_
                refine XK.nilN ?_
                exact XK.meetB (by repeat (first | exact trivial | refine ⟨rfl, ?_⟩)) (by first | (exfalso; omega) | (refine get_iff rfl ⟨fun _ => trivial, fun _ => ?_⟩; omega) | (refine get_iff rfl ⟨fun hh => ?_, fun hh => hh.elim⟩; omega) | exact get_true rfl trivial | (refine get_false rfl ?_; exact id))
              ·
                refine xk_guardF rfl rfl rfl (by decide) ?_
                refine xk_guardF rfl rfl rfl (by decide) ?_
                refine xk_guardT rfl rfl ?_; (first | refine xk_pickT rfl rfl (by decide) ?_ | refine xk_pickF rfl rfl (by decide) ?_)
                (first | refine xk_pickT rfl rfl (by decide) ?_ | refine xk_pickF rfl rfl (by decide) ?_)
                refine xk_assign rfl (by decide) ?_
                refine XK.nilN ?_
                exact XK.meetB (by repeat (first | exact trivial | refine ⟨rfl, ?_⟩)) (by first | (exfalso; omega) | (refine get_iff rfl ⟨fun _ => trivial, fun _ => ?_⟩; omega) | (refine get_iff rfl ⟨fun hh => ?_, fun hh => hh.elim⟩; omega) | exact get_true rfl trivial | (refine get_false rfl ?_; exact id))
          ·
            refine xk_guardF rfl rfl rfl (by decide) ?_
            refine xk_guardF rfl rfl rfl (by decide) ?_
            refine xk_guardT rfl rfl ?_; (first | refine xk_pickT rfl rfl (by decide) ?_ | refine xk_pickF rfl rfl (by decide) ?_)
            (first | refine xk_pickT rfl rfl (by decide) ?_ | refine xk_pickF rfl rfl (by decide) ?_)
            refine xk_move rfl (by decide) ?_
            refine xk_guardT rfl rfl ?_; refine xk_field (off := 0) (by kernel_rfl) rfl (by decide) ?_
            refine xk_guardT rfl rfl ?_; refine xk_ld rfl ?_
            refine xk_guardT rfl rfl ?_; refine xk_eql rfl rfl (by decide) ?_
            refine xk_guardT rfl rfl ?_; refine xk_move rfl (by decide) ?_
            refine xk_split (t := 41) rfl (fun hg41 => ?_) (fun hg41 => ?_)
            ·
              refine xk_guardT rfl rfl ?_; refine xk_move rfl (by decide) ?_
              refine xk_guardT rfl rfl ?_; refine xk_callR (f := 121) (fi := []) (ca := []) (by kernel_rfl) rfl rfl (by decide) (fun w1 st => refWithin_any _ _ _ w1) ?_
              refine xk_guardT rfl rfl ?_; (first | refine xk_pickT rfl rfl (by decide) ?_ | refine xk_pickF rfl rfl (by decide) ?_)
              (first | refine xk_pickT rfl rfl (by decide) ?_ | refine xk_pickF rfl rfl (by decide) ?_)
              refine xk_assign rfl (by decide) ?_
              refine XK.nilN ?_
              exact XK.meetB (by repeat (first | exact trivial | refine ⟨rfl, ?_⟩)) (by first | (exfalso; omega) | (refine get_iff rfl ⟨fun _ => trivial, fun _ => ?_⟩; omega) | (refine get_iff rfl ⟨fun hh => ?_, fun hh => hh.elim⟩; omega) | exact get_true rfl trivial | (refine get_false rfl ?_; exact id))
            ·
              refine xk_guardF rfl rfl rfl (by decide) ?_
              refine xk_guardF rfl rfl rfl (by decide) ?_
              refine xk_guardT rfl rfl ?_; (first | refine xk_pickT rfl rfl (by decide) ?_ | refine xk_pickF rfl rfl (by decide) ?_)
              (first | refine xk_pickT rfl rfl (by decide) ?_ | refine xk_pickF rfl rfl (by decide) ?_)
              refine xk_assign rfl (by decide) ?_
              refine XK.nilN ?_
              exact XK.meetB (by repeat (first | exact trivial | refine ⟨rfl, ?_⟩)) (by first | (exfalso; omega) | (refine get_iff rfl ⟨fun _ => trivial, fun _ => ?_⟩; omega) | (refine get_iff rfl ⟨fun hh => ?_, fun hh => hh.elim⟩; omega) | exact get_true rfl trivial | (refine get_false rfl ?_; exact id))
  refine XK.seq ?_
  refine XK.seq ?_

  refine XK.region ?_
  refine xk_move rfl (by decide) ?_
  refine xk_notD rfl (by decide) ?_
  refine XK.nilN ?_
  refine XK.if_ rfl (fun h => by first | exact absurd rfl h | exact absurd trivial h | exact False.elim h | (exfalso; omega) | cases h) (fun h => ?_)

  ·
    refine XK.skip ?_
    refine XK.norm ?_
    refine XK.seq ?_
    refine XK.seq ?_

    refine XK.region ?_
    refine xk_assign rfl (by decide) ?_
    refine XK.nilN ?_
    refine XK.envS [(7, .int .i64 0), (5, .int .i64 ns), (2, .pointer (some ⟨g1, 0, none⟩)), (1, .int .i64 nn)] ?_
    refine XK.block ?_
    refine XK.loop (fun m e R H => ∃ (i : Nat), i ≤ ns ∧ m = ns - i ∧ e = [(7, .int .i64 i), (5, .int .i64 ns), (2, .pointer (some ⟨g1, 0, none⟩)), (1, .int .i64 nn)] ∧ R = [all w] ∧ H = [HP.blk g1 87 [.int .u8 c.kind, .slice As ns ks, .int .u64 c.rate, .int .i64 c.mul, .int .i64 c.div, .int .i64 c.lock]]) ns ⟨0, by omega, rfl, rfl, rfl, rfl⟩ fun m e R H hI => ?_
    obtain ⟨i, hi, rfl, rfl, rfl, rfl⟩ := hI
    refine XK.seq ?_
    refine XK.seq ?_

    refine XK.region ?_
    refine xk_move rfl (by decide) ?_
    refine xk_move rfl (by decide) ?_
    refine xk_lss rfl rfl (by decide) ?_
    refine XK.nilN ?_
    refine XK.if_ rfl (fun hil => ?_) (fun hil => ?_)
    ·
      refine XK.skip ?_
      refine XK.norm ?_
      refine XK.seq ?_
      refine XK.block ?_
      refine XK.seq ?_
      have hil' : i < ns := by have h' : (i : Int) < (ns : Int) := hil; omega
      obtain ⟨y, hy⟩ : ∃ y, c.src[i]? = some y := ⟨_, List.getElem?_eq_getElem (by omega)⟩
      have hyb := hk9 y (List.mem_of_getElem? hy)
      obtain ⟨bI, oI, hAI, hcI⟩ := hs.intR (by omega)
      subst hAI
      have hcy := hcI i y hy

      refine XK.region ?_
      refine xk_field (off := 1) (by kernel_rfl) rfl (by decide) ?_
      refine xk_ld rfl ?_
      refine xk_move rfl (by decide) ?_
      refine xk_at (i) (oI + i) (el := 3) (sz := 1) (by kernel_rfl) (by kernel_rfl) rfl rfl (by omega) (by omega) (by omega) (by decide) ?_
      refine xk_load (by kernel_rfl) rfl (Rd.roc (by simp) hcy) (by decide) ?_
      refine xk_move rfl (by decide) ?_
      refine xk_callR (f := 147) (fi := []) (ca := []) (by kernel_rfl) rfl rfl (by decide) (fun w1 st => refIn4_any _ _ w1) ?_
      refine xk_notD rfl (by decide) ?_
      refine XK.nilN ?_
      refine XK.if_ rfl (fun h => by first | exact absurd rfl h | exact absurd trivial h | exact False.elim h | (exfalso; omega) | cases h) (fun h => ?_)

      ·
        refine XK.skip ?_
        refine XK.norm ?_

        refine XK.region ?_
        refine xk_move rfl (by decide) ?_
        refine xk_add rfl rfl (wrap_in (by omega)) (by decide) ?_
        refine xk_assign rfl (by decide) ?_
        refine XK.nilN ?_
        exact XK.envS [(7, .int .i64 ((i : Int) + 1)), (5, .int .i64 ns), (2, .pointer (some ⟨g1, 0, none⟩)), (1, .int .i64 nn)] (XK.round (ns - (i + 1)) (by omega) ⟨i + 1, by omega, rfl, rfl, rfl, rfl⟩)
    ·
      refine XK.exit ?_
      refine XK.norm ?_
      refine XK.seq ?_
      refine XK.cutB 73 (False) ?_ ?_
      · skip

        refine XK.region ?_
        refine xk_field (off := 0) (by kernel_rfl) rfl (by decide) ?_
        refine xk_ld rfl ?_
        refine xk_eql rfl rfl (by decide) ?_
        refine xk_move rfl (by decide) ?_
        refine xk_split (t := 64) rfl (fun hg64 => ?_) (fun hg64 => ?_)
        ·
          refine xk_guardT rfl rfl ?_; refine xk_field (off := 2) (by kernel_rfl) rfl (by decide) ?_
          refine xk_guardT rfl rfl ?_; refine xk_ld rfl ?_
          refine xk_guardT rfl rfl ?_; refine xk_lss rfl rfl (by decide) ?_
          refine xk_guardT rfl rfl ?_; refine xk_move rfl (by decide) ?_
          refine xk_split (t := 68) rfl (fun hg68 => ?_) (fun hg68 => ?_)
          ·
            refine xk_guardF rfl rfl rfl (by decide) ?_
            refine xk_guardF rfl rfl rfl (by decide) ?_
            refine xk_guardF rfl rfl rfl (by decide) ?_
            refine xk_guardT rfl rfl ?_; (first | refine xk_pickT rfl rfl (by decide) ?_ | refine xk_pickF rfl rfl (by decide) ?_)
            (first | refine xk_pickT rfl rfl (by decide) ?_ | refine xk_pickF rfl rfl (by decide) ?_)
            refine XK.nilN ?_
            exact XK.meetB (by repeat (first | exact trivial | refine ⟨rfl, ?_⟩)) (by first | (exfalso; omega) | (refine get_iff rfl ⟨fun _ => trivial, fun _ => ?_⟩; omega) | (refine get_iff rfl ⟨fun hh => ?_, fun hh => hh.elim⟩; omega) | exact get_true rfl trivial | (refine get_false rfl ?_; exact id))
          ·
            refine xk_guardT rfl rfl ?_; refine xk_field (off := 2) (by kernel_rfl) rfl (by decide) ?_
            refine xk_guardT rfl rfl ?_; refine xk_ld rfl ?_
            refine xk_guardT rfl rfl ?_; refine xk_gtr rfl rfl (by decide) ?_
            refine xk_guardT rfl rfl ?_; (first | refine xk_pickT rfl rfl (by decide) ?_ | refine xk_pickF rfl rfl (by decide) ?_)
            (first | refine xk_pickT rfl rfl (by decide) ?_ | refine xk_pickF rfl rfl (by decide) ?_)
            refine XK.nilN ?_
            exact XK.meetB (by repeat (first | exact trivial | refine ⟨rfl, ?_⟩)) (by first | (exfalso; omega) | (refine get_iff rfl ⟨fun _ => trivial, fun _ => ?_⟩; omega) | (refine get_iff rfl ⟨fun hh => ?_, fun hh => hh.elim⟩; omega) | exact get_true rfl trivial | (refine get_false rfl ?_; exact id))
        ·
          refine xk_guardF rfl rfl rfl (by decide) ?_
          refine xk_guardF rfl rfl rfl (by decide) ?_
          refine xk_guardF rfl rfl rfl (by decide) ?_
          refine xk_guardF rfl rfl rfl (by decide) ?_
          refine xk_guardU rfl rfl (by decide) ?_
          refine xk_guardU rfl rfl (by decide) ?_
          refine xk_guardU rfl rfl (by decide) ?_
          refine xk_guardF rfl rfl rfl (by decide) ?_
          (first | refine xk_pickT rfl rfl (by decide) ?_ | refine xk_pickF rfl rfl (by decide) ?_)
          refine XK.nilN ?_
          exact XK.meetB (by repeat (first | exact trivial | refine ⟨rfl, ?_⟩)) (by first | (exfalso; omega) | (refine get_iff rfl ⟨fun _ => trivial, fun _ => ?_⟩; omega) | (refine get_iff rfl ⟨fun hh => ?_, fun hh => hh.elim⟩; omega) | exact get_true rfl trivial | (refine get_false rfl ?_; exact id))
      refine XK.if_ rfl (fun h => by first | exact absurd rfl h | exact absurd trivial h | exact False.elim h | (exfalso; omega) | cases h) (fun h => ?_)

      ·
        refine XK.skip ?_
        refine XK.norm ?_
        refine XK.seq ?_
        refine XK.cutB 94 (False) ?_ ?_
        · skip

          refine XK.region ?_
          refine xk_field (off := 0) (by kernel_rfl) rfl (by decide) ?_
          refine xk_ld rfl ?_
          refine xk_eql rfl rfl (by decide) ?_
          refine xk_move rfl (by decide) ?_
          refine xk_split (t := 77) rfl (fun hg77 => ?_) (fun hg77 => ?_)
          ·
            refine xk_guardT rfl rfl ?_; refine xk_field (off := 3) (by kernel_rfl) rfl (by decide) ?_
            refine xk_guardT rfl rfl ?_; refine xk_ld rfl ?_
            refine xk_guardT rfl rfl ?_; refine xk_callR (f := 121) (fi := []) (ca := []) (by kernel_rfl) rfl rfl (by decide) (fun w1 st => refWithin_any _ _ _ w1) ?_
            refine xk_guardT rfl rfl ?_; refine xk_notD rfl (by decide) ?_
            refine xk_guardT rfl rfl ?_; refine xk_move rfl (by decide) ?_
            refine xk_split (t := 82) rfl (fun hg82 => ?_) (fun hg82 => ?_)
            ·
              refine xk_guardF rfl rfl rfl (by decide) ?_
              refine xk_guardF rfl rfl rfl (by decide) ?_
              refine xk_guardF rfl rfl rfl (by decide) ?_
              refine xk_guardF rfl rfl rfl (by decide) ?_
              refine xk_guardT rfl rfl ?_; (first | refine xk_pickT rfl rfl (by decide) ?_ | refine xk_pickF rfl rfl (by decide) ?_)
              refine xk_guardT rfl rfl ?_; refine xk_move rfl (by decide) ?_
              refine xk_guardF rfl rfl rfl (by decide) ?_
              refine xk_guardF rfl rfl rfl (by decide) ?_
              refine xk_guardF rfl rfl rfl (by decide) ?_
              refine xk_guardF rfl rfl rfl (by decide) ?_
              refine xk_guardT rfl rfl ?_; (first | refine xk_pickT rfl rfl (by decide) ?_ | refine xk_pickF rfl rfl (by decide) ?_)
              (first | refine xk_pickT rfl rfl (by decide) ?_ | refine xk_pickF rfl rfl (by decide) ?_)
              refine XK.nilN ?_
              exact XK.meetB (by repeat (first | exact trivial | refine ⟨rfl, ?_⟩)) (by first | (exfalso; omega) | (refine get_iff rfl ⟨fun _ => trivial, fun _ => ?_⟩; omega) | (refine get_iff rfl ⟨fun hh => ?_, fun hh => hh.elim⟩; omega) | exact get_true rfl trivial | (refine get_false rfl ?_; exact id))
            ·
              refine xk_guardT rfl rfl ?_; refine xk_field (off := 4) (by kernel_rfl) rfl (by decide) ?_
              refine xk_guardT rfl rfl ?_; refine xk_ld rfl ?_
              refine xk_guardT rfl rfl ?_; refine xk_callR (f := 121) (fi := []) (ca := []) (by kernel_rfl) rfl rfl (by decide) (fun w1 st => refWithin_any _ _ _ w1) ?_
              refine xk_guardT rfl rfl ?_; refine xk_notD rfl (by decide) ?_
              refine xk_guardT rfl rfl ?_; (first | refine xk_pickT rfl rfl (by decide) ?_ | refine xk_pickF rfl rfl (by decide) ?_)
              refine xk_guardT rfl rfl ?_; refine xk_move rfl (by decide) ?_
              refine xk_split (t := 88) rfl (fun hg88 => ?_) (fun hg88 => ?_)
              ·
                refine xk_guardF rfl rfl rfl (by decide) ?_
                refine xk_guardF rfl rfl rfl (by decide) ?_
                refine xk_guardF rfl rfl rfl (by decide) ?_
                refine xk_guardF rfl rfl rfl (by decide) ?_
                refine xk_guardT rfl rfl ?_; (first | refine xk_pickT rfl rfl (by decide) ?_ | refine xk_pickF rfl rfl (by decide) ?_)
                (first | refine xk_pickT rfl rfl (by decide) ?_ | refine xk_pickF rfl rfl (by decide) ?_)
                refine XK.nilN ?_
                exact XK.meetB (by repeat (first | exact trivial | refine ⟨rfl, ?_⟩)) (by first | (exfalso; omega) | (refine get_iff rfl ⟨fun _ => trivial, fun _ => ?_⟩; omega) | (refine get_iff rfl ⟨fun hh => ?_, fun hh => hh.elim⟩; omega) | exact get_true rfl trivial | (refine get_false rfl ?_; exact id))
              ·
                refine xk_guardT rfl rfl ?_; refine xk_field (off := 5) (by kernel_rfl) rfl (by decide) ?_
                refine xk_guardT rfl rfl ?_; refine xk_ld rfl ?_
                refine xk_guardT rfl rfl ?_; refine xk_callR (f := 121) (fi := []) (ca := []) (by kernel_rfl) rfl rfl (by decide) (fun w1 st => refWithin_any _ _ _ w1) ?_
                refine xk_guardT rfl rfl ?_; refine xk_notD rfl (by decide) ?_
                refine xk_guardT rfl rfl ?_; (first | refine xk_pickT rfl rfl (by decide) ?_ | refine xk_pickF rfl rfl (by decide) ?_)
                (first | refine xk_pickT rfl rfl (by decide) ?_ | refine xk_pickF rfl rfl (by decide) ?_)
                refine XK.nilN ?_
                exact XK.meetB (by repeat (first | exact trivial | refine ⟨rfl, ?_⟩)) (by first | (exfalso; omega) | (refine get_iff rfl ⟨fun _ => trivial, fun _ => ?_⟩; omega) | (refine get_iff rfl ⟨fun hh => ?_, fun hh => hh.elim⟩; omega) | exact get_true rfl trivial | (refine get_false rfl ?_; exact id))
          ·
            refine xk_guardF rfl rfl rfl (by decide) ?_
            refine xk_guardF rfl rfl rfl (by decide) ?_
            refine xk_guardF rfl rfl rfl (by decide) ?_
            refine xk_guardF rfl rfl rfl (by decide) ?_
            refine xk_guardF rfl rfl rfl (by decide) ?_
            refine xk_guardU rfl rfl (by decide) ?_
            refine xk_guardU rfl rfl (by decide) ?_
            refine xk_guardU rfl rfl (by decide) ?_
            refine xk_guardU rfl rfl (by decide) ?_
            refine xk_guardF rfl rfl rfl (by decide) ?_
            refine xk_guardF rfl rfl rfl (by decide) ?_
            refine xk_guardU rfl rfl (by decide) ?_
            refine xk_guardU rfl rfl (by decide) ?_
            refine xk_guardU rfl rfl (by decide) ?_
            refine xk_guardU rfl rfl (by decide) ?_
            refine xk_guardF rfl rfl rfl (by decide) ?_
            (first | refine xk_pickT rfl rfl (by decide) ?_ | refine xk_pickF rfl rfl (by decide) ?_)
            refine XK.nilN ?_
            exact XK.meetB (by repeat (first | exact trivial | refine ⟨rfl, ?_⟩)) (by first | (exfalso; omega) | (refine get_iff rfl ⟨fun _ => trivial, fun _ => ?_⟩; omega) | (refine get_iff rfl ⟨fun hh => ?_, fun hh => hh.elim⟩; omega) | exact get_true rfl trivial | (refine get_false rfl ?_; exact id))
        refine XK.if_ rfl (fun h => by first | exact absurd rfl h | exact absurd trivial h | exact False.elim h | (exfalso; omega) | cases h) (fun h => ?_)

        ·
          refine XK.skip ?_
          refine XK.norm ?_
          refine XK.seq ?_
          refine XK.cutB 103 (False) ?_ ?_
          · skip

            refine XK.region ?_
            refine xk_field (off := 0) (by kernel_rfl) rfl (by decide) ?_
            refine xk_ld rfl ?_
            refine xk_eql rfl rfl (by decide) ?_
            refine xk_move rfl (by decide) ?_
            refine xk_split (t := 98) rfl (fun hg98 => ?_) (fun hg98 => ?_)
            ·
              refine xk_guardT rfl rfl ?_; refine xk_field (off := 4) (by kernel_rfl) rfl (by decide) ?_
              refine xk_guardT rfl rfl ?_; refine xk_ld rfl ?_
              refine xk_guardT rfl rfl ?_; refine xk_callR (f := 121) (fi := []) (ca := []) (by kernel_rfl) rfl rfl (by decide) (fun w1 st => refWithin_any _ _ _ w1) ?_
              refine xk_guardT rfl rfl ?_; refine xk_notD rfl (by decide) ?_
              (first | refine xk_pickT rfl rfl (by decide) ?_ | refine xk_pickF rfl rfl (by decide) ?_)
              refine XK.nilN ?_
              exact XK.meetB (by repeat (first | exact trivial | refine ⟨rfl, ?_⟩)) (by first | (exfalso; omega) | (refine get_iff rfl ⟨fun _ => trivial, fun _ => ?_⟩; omega) | (refine get_iff rfl ⟨fun hh => ?_, fun hh => hh.elim⟩; omega) | exact get_true rfl trivial | (refine get_false rfl ?_; exact id))
            ·
              refine xk_guardF rfl rfl rfl (by decide) ?_
              refine xk_guardF rfl rfl rfl (by decide) ?_
              refine xk_guardF rfl rfl rfl (by decide) ?_
              refine xk_guardF rfl rfl rfl (by decide) ?_
              (first | refine xk_pickT rfl rfl (by decide) ?_ | refine xk_pickF rfl rfl (by decide) ?_)
              refine XK.nilN ?_
              exact XK.meetB (by repeat (first | exact trivial | refine ⟨rfl, ?_⟩)) (by first | (exfalso; omega) | (refine get_iff rfl ⟨fun _ => trivial, fun _ => ?_⟩; omega) | (refine get_iff rfl ⟨fun hh => ?_, fun hh => hh.elim⟩; omega) | exact get_true rfl trivial | (refine get_false rfl ?_; exact id))
          refine XK.if_ rfl (fun h => by first | exact absurd rfl h | exact absurd trivial h | exact False.elim h | (exfalso; omega) | cases h) (fun h => ?_)

          ·
            refine XK.skip ?_
            refine XK.norm ?_
            refine XK.seq ?_

            refine XK.region ?_
            refine xk_assign rfl (by decide) ?_
            refine XK.nilN ?_
            refine XK.ret ?_
            refine XK.norm ?_
            exact XK.ret1 rfl rfl fun w1 st => ⟨rfl, st.below (by simp)⟩

theorem refCounts_any (s : Soc) (A1 A2 A3 A4 : Option Addr) (n1 k1 n2 k2 n3 k3 n4 k4 : Nat) (w : World) (hW : SocW w s A1 n1 A2 n2 A3 n3 A4 n4) (hm : s.made) : Calls Tryz.prog 118 #[.agg #[.slice A1 n1 k1, .slice A2 n2 k2, .slice A3 n3 k3, .slice A4 n4 k4]] w (Rt (.bool true) w) := by
  have hn1 := hW.len1
  have hn2 := hW.len2
  have hn3 := hW.len3
  have hn4 := hW.len4
  have hnc := hm.nc
  have hnd := hm.nd
  have hnr := hm.nr
  have hnv := hm.nv
  refine XK.enter (vs := [.agg #[.slice A1 n1 k1, .slice A2 n2 k2, .slice A3 n3 k3, .slice A4 n4 k4]]) Tryz.func118 rfl Tryz.ntmps118 (by simp) ?_
  refine XK.seq ?_

  refine XK.region ?_
  refine xk_box rfl (by decide) fun g1 => ?_
  refine xk_assign rfl (by decide) ?_
  refine XK.nilN ?_
  refine XK.seq ?_
  refine XK.cutB 25 (False) ?_ ?_
  · skip

    refine XK.region ?_
    refine xk_field (off := 0) (by kernel_rfl) rfl (by decide) ?_
    refine xk_ld rfl ?_
    refine xk_len (el := 87) (by kernel_rfl) rfl (by decide) ?_
    refine xk_gtr rfl rfl (by decide) ?_
    refine xk_move rfl (by decide) ?_
    refine xk_split (t := 8) rfl (fun hg8 => ?_) (fun hg8 => ?_)
    ·
      refine xk_guardF rfl rfl rfl (by decide) ?_
      refine xk_guardF rfl rfl rfl (by decide) ?_
      refine xk_guardF rfl rfl rfl (by decide) ?_
      refine xk_guardF rfl rfl rfl (by decide) ?_
      (first | refine xk_pickT rfl rfl (by decide) ?_ | refine xk_pickF rfl rfl (by decide) ?_)
      refine xk_move rfl (by decide) ?_
      refine xk_guardF rfl rfl rfl (by decide) ?_
      refine xk_guardF rfl rfl rfl (by decide) ?_
      refine xk_guardF rfl rfl rfl (by decide) ?_
      refine xk_guardF rfl rfl rfl (by decide) ?_
      (first | refine xk_pickT rfl rfl (by decide) ?_ | refine xk_pickF rfl rfl (by decide) ?_)
      refine xk_move rfl (by decide) ?_
      refine xk_guardF rfl rfl rfl (by decide) ?_
      refine xk_guardF rfl rfl rfl (by decide) ?_
      refine xk_guardF rfl rfl rfl (by decide) ?_
      refine xk_guardF rfl rfl rfl (by decide) ?_
      (first | refine xk_pickT rfl rfl (by decide) ?_ | refine xk_pickF rfl rfl (by decide) ?_)
      refine XK.nilN ?_
      exact XK.meetB (by repeat (first | exact trivial | refine ⟨rfl, ?_⟩)) (by first | (exfalso; omega) | (refine get_iff rfl ⟨fun _ => trivial, fun _ => ?_⟩; omega) | (refine get_iff rfl ⟨fun hh => ?_, fun hh => hh.elim⟩; omega) | exact get_true rfl trivial | (refine get_false rfl ?_; exact id))
    ·
      refine xk_guardT rfl rfl ?_; refine xk_field (off := 1) (by kernel_rfl) rfl (by decide) ?_
      refine xk_guardT rfl rfl ?_; refine xk_ld rfl ?_
      refine xk_guardT rfl rfl ?_; refine xk_len (el := 89) (by kernel_rfl) rfl (by decide) ?_
      refine xk_guardT rfl rfl ?_; refine xk_gtr rfl rfl (by decide) ?_
      (first | refine xk_pickT rfl rfl (by decide) ?_ | refine xk_pickF rfl rfl (by decide) ?_)
      refine xk_move rfl (by decide) ?_
      refine xk_split (t := 14) rfl (fun hg14 => ?_) (fun hg14 => ?_)
      ·
        refine xk_guardF rfl rfl rfl (by decide) ?_
        refine xk_guardF rfl rfl rfl (by decide) ?_
        refine xk_guardF rfl rfl rfl (by decide) ?_
        refine xk_guardF rfl rfl rfl (by decide) ?_
        (first | refine xk_pickT rfl rfl (by decide) ?_ | refine xk_pickF rfl rfl (by decide) ?_)
        refine xk_move rfl (by decide) ?_
        refine xk_guardF rfl rfl rfl (by decide) ?_
        refine xk_guardF rfl rfl rfl (by decide) ?_
        refine xk_guardF rfl rfl rfl (by decide) ?_
        refine xk_guardF rfl rfl rfl (by decide) ?_
        (first | refine xk_pickT rfl rfl (by decide) ?_ | refine xk_pickF rfl rfl (by decide) ?_)
        refine XK.nilN ?_
        exact XK.meetB (by repeat (first | exact trivial | refine ⟨rfl, ?_⟩)) (by first | (exfalso; omega) | (refine get_iff rfl ⟨fun _ => trivial, fun _ => ?_⟩; omega) | (refine get_iff rfl ⟨fun hh => ?_, fun hh => hh.elim⟩; omega) | exact get_true rfl trivial | (refine get_false rfl ?_; exact id))
      ·
        refine xk_guardT rfl rfl ?_; refine xk_field (off := 2) (by kernel_rfl) rfl (by decide) ?_
        refine xk_guardT rfl rfl ?_; refine xk_ld rfl ?_
        refine xk_guardT rfl rfl ?_; refine xk_len (el := 91) (by kernel_rfl) rfl (by decide) ?_
        refine xk_guardT rfl rfl ?_; refine xk_gtr rfl rfl (by decide) ?_
        (first | refine xk_pickT rfl rfl (by decide) ?_ | refine xk_pickF rfl rfl (by decide) ?_)
        refine xk_move rfl (by decide) ?_
        refine xk_split (t := 20) rfl (fun hg20 => ?_) (fun hg20 => ?_)
        ·
          refine xk_guardF rfl rfl rfl (by decide) ?_
          refine xk_guardF rfl rfl rfl (by decide) ?_
          refine xk_guardF rfl rfl rfl (by decide) ?_
          refine xk_guardF rfl rfl rfl (by decide) ?_
          (first | refine xk_pickT rfl rfl (by decide) ?_ | refine xk_pickF rfl rfl (by decide) ?_)
          refine XK.nilN ?_
          exact XK.meetB (by repeat (first | exact trivial | refine ⟨rfl, ?_⟩)) (by first | (exfalso; omega) | (refine get_iff rfl ⟨fun _ => trivial, fun _ => ?_⟩; omega) | (refine get_iff rfl ⟨fun hh => ?_, fun hh => hh.elim⟩; omega) | exact get_true rfl trivial | (refine get_false rfl ?_; exact id))
        ·
          refine xk_guardT rfl rfl ?_; refine xk_field (off := 3) (by kernel_rfl) rfl (by decide) ?_
          refine xk_guardT rfl rfl ?_; refine xk_ld rfl ?_
          refine xk_guardT rfl rfl ?_; refine xk_len (el := 94) (by kernel_rfl) rfl (by decide) ?_
          refine xk_guardT rfl rfl ?_; refine xk_gtr rfl rfl (by decide) ?_
          (first | refine xk_pickT rfl rfl (by decide) ?_ | refine xk_pickF rfl rfl (by decide) ?_)
          refine XK.nilN ?_
          exact XK.meetB (by repeat (first | exact trivial | refine ⟨rfl, ?_⟩)) (by first | (exfalso; omega) | (refine get_iff rfl ⟨fun _ => trivial, fun _ => ?_⟩; omega) | (refine get_iff rfl ⟨fun hh => ?_, fun hh => hh.elim⟩; omega) | exact get_true rfl trivial | (refine get_false rfl ?_; exact id))
  refine XK.if_ rfl (fun h => by first | exact absurd rfl h | exact absurd trivial h | exact False.elim h | (exfalso; omega) | cases h) (fun h => ?_)

  ·
    refine XK.skip ?_
    refine XK.norm ?_
    refine XK.seq ?_
    refine XK.seq ?_

    refine XK.region ?_
    refine xk_assign rfl (by decide) ?_
    refine XK.nilN ?_
    refine XK.envS [(3, .int .i64 0), (1, .pointer (some ⟨g1, 0, none⟩))] ?_
    refine XK.block ?_
    refine XK.loop (fun m e R H => ∃ (i : Nat), i ≤ n4 ∧ m = n4 - i ∧ e = [(3, .int .i64 i), (1, .pointer (some ⟨g1, 0, none⟩))] ∧ R = [all w] ∧ H = [HP.blk g1 30 [.slice A1 n1 k1, .slice A2 n2 k2, .slice A3 n3 k3, .slice A4 n4 k4]]) n4 ⟨0, by omega, rfl, rfl, rfl, rfl⟩ fun m e R H hI => ?_
    obtain ⟨i, hi, rfl, rfl, rfl, rfl⟩ := hI
    refine XK.seq ?_
    refine XK.seq ?_

    refine XK.region ?_
    refine xk_move rfl (by decide) ?_
    refine xk_field (off := 3) (by kernel_rfl) rfl (by decide) ?_
    refine xk_ld rfl ?_
    refine xk_len (el := 94) (by kernel_rfl) rfl (by decide) ?_
    refine xk_lss rfl rfl (by decide) ?_
    refine XK.nilN ?_
    refine XK.if_ rfl (fun hil => ?_) (fun hil => ?_)
    ·
      refine XK.skip ?_
      refine XK.norm ?_
      refine XK.seq ?_
      refine XK.block ?_
      have hil' : i < n4 := by have h' : (i : Int) < (n4 : Int) := hil; omega
      obtain ⟨d, hd⟩ : ∃ d, s.devs[i]? = some d := ⟨_, List.getElem?_eq_getElem (by omega)⟩
      obtain ⟨b, off, r, rfl, hrl, hR, hro⟩ := hW.dev.row hd
      obtain ⟨Ar, nr, kr, An, nn, kn, rfl, hnr9, hnn9, hsr, hsn⟩ := hR
      obtain ⟨hd1, hd2, hd3, hd4, hd5, hd6, hd7, hd8, hd9, hd10, hd11, hd12⟩ := hm.devs i d hd
      refine XK.cutB 50 (False) ?_ ?_
      · skip

        refine XK.region ?_
        refine xk_field (off := 3) (by kernel_rfl) rfl (by decide) ?_
        refine xk_ld rfl ?_
        refine xk_move rfl (by decide) ?_
        refine xk_at i (off + i * 6) (el := 94) (sz := 6) (by kernel_rfl) (by kernel_rfl) rfl rfl (by omega) (by omega) (by omega) (by decide) ?_
        refine xk_field (off := 4) (by kernel_rfl) rfl (by decide) ?_
        refine xk_load (by kernel_rfl) rfl (Rd.roc (by simp) (hro.at_ (j := 4) rfl)) (by decide) ?_
        refine xk_len (el := 96) (by kernel_rfl) rfl (by decide) ?_
        refine xk_gtr rfl rfl (by decide) ?_
        refine xk_move rfl (by decide) ?_
        refine xk_split (t := 41) rfl (fun hg41 => ?_) (fun hg41 => ?_)
        ·
          refine xk_guardF rfl rfl rfl (by decide) ?_
          refine xk_guardF rfl rfl rfl (by decide) ?_
          refine xk_guardF rfl rfl rfl (by decide) ?_
          refine xk_guardF rfl rfl rfl (by decide) ?_
          refine xk_guardF rfl rfl rfl (by decide) ?_
          refine xk_guardF rfl rfl rfl (by decide) ?_
          refine xk_guardF rfl rfl rfl (by decide) ?_
          refine xk_guardF rfl rfl rfl (by decide) ?_
          (first | refine xk_pickT rfl rfl (by decide) ?_ | refine xk_pickF rfl rfl (by decide) ?_)
          refine XK.nilN ?_
          exact XK.meetB (by repeat (first | exact trivial | refine ⟨rfl, ?_⟩)) (by first | (exfalso; omega) | (refine get_iff rfl ⟨fun _ => trivial, fun _ => ?_⟩; omega) | (refine get_iff rfl ⟨fun hh => ?_, fun hh => hh.elim⟩; omega) | exact get_true rfl trivial | (refine get_false rfl ?_; exact id))
        ·
          refine xk_guardT rfl rfl ?_; refine xk_field (off := 3) (by kernel_rfl) rfl (by decide) ?_
          refine xk_guardT rfl rfl ?_; refine xk_ld rfl ?_
          refine xk_guardT rfl rfl ?_; refine xk_move rfl (by decide) ?_
          refine xk_guardT rfl rfl ?_; refine xk_at i (off + i * 6) (el := 94) (sz := 6) (by kernel_rfl) (by kernel_rfl) rfl rfl (by omega) (by omega) (by omega) (by decide) ?_
          refine xk_guardT rfl rfl ?_; refine xk_field (off := 5) (by kernel_rfl) rfl (by decide) ?_
          refine xk_guardT rfl rfl ?_; refine xk_load (by kernel_rfl) rfl (Rd.roc (by simp) (hro.at_ (j := 5) rfl)) (by decide) ?_
          refine xk_guardT rfl rfl ?_; refine xk_len (el := 3) (by kernel_rfl) rfl (by decide) ?_
          refine xk_guardT rfl rfl ?_; refine xk_gtr rfl rfl (by decide) ?_
          (first | refine xk_pickT rfl rfl (by decide) ?_ | refine xk_pickF rfl rfl (by decide) ?_)
          refine XK.nilN ?_
          exact XK.meetB (by repeat (first | exact trivial | refine ⟨rfl, ?_⟩)) (by first | (exfalso; omega) | (refine get_iff rfl ⟨fun _ => trivial, fun _ => ?_⟩; omega) | (refine get_iff rfl ⟨fun hh => ?_, fun hh => hh.elim⟩; omega) | exact get_true rfl trivial | (refine get_false rfl ?_; exact id))
      refine XK.if_ rfl (fun h => by first | exact absurd rfl h | exact absurd trivial h | exact False.elim h | (exfalso; omega) | cases h) (fun h => ?_)

      ·
        refine XK.skip ?_
        refine XK.norm ?_

        refine XK.region ?_
        refine xk_move rfl (by decide) ?_
        refine xk_add rfl rfl (wrap_in (by omega)) (by decide) ?_
        refine xk_assign rfl (by decide) ?_
        refine XK.nilN ?_
        exact XK.envS [(3, .int .i64 ((i : Int) + 1)), (1, .pointer (some ⟨g1, 0, none⟩))] (XK.round (n4 - (i + 1)) (by omega) ⟨i + 1, by omega, rfl, rfl, rfl, rfl⟩)
    ·
      refine XK.exit ?_
      refine XK.norm ?_
      refine XK.seq ?_

      refine XK.region ?_
      refine xk_assign rfl (by decide) ?_
      refine XK.nilN ?_
      refine XK.ret ?_
      refine XK.norm ?_
      exact XK.ret1 rfl rfl fun w1 st => ⟨rfl, st.below (by simp)⟩

theorem refClocksE_any (s : Soc) (A1 A2 A3 A4 : Option Addr) (n1 k1 n2 k2 n3 k3 n4 k4 : Nat) (w : World) (hW : SocW w s A1 n1 A2 n2 A3 n3 A4 n4) (hm : s.made) : Calls Tryz.prog 119 #[.agg #[.slice A1 n1 k1, .slice A2 n2 k2, .slice A3 n3 k3, .slice A4 n4 k4]] w (Rt (.int .i64 0) w) := by
  have hn1 := hW.len1
  have hn2 := hW.len2
  have hn3 := hW.len3
  have hn4 := hW.len4
  have hnc := hm.nc
  have hnd := hm.nd
  have hnr := hm.nr
  have hnv := hm.nv
  have hsm := hW.small
  unfold Soc.small at hsm
  obtain ⟨hs1, hs2, hs3, hs4, hs5, hs6⟩ := hsm
  refine XK.enter (vs := [.agg #[.slice A1 n1 k1, .slice A2 n2 k2, .slice A3 n3 k3, .slice A4 n4 k4]]) Tryz.func119 rfl Tryz.ntmps119 (by simp) ?_
  refine XK.seq ?_

  refine XK.region ?_
  refine xk_box rfl (by decide) fun g1 => ?_
  refine xk_assign rfl (by decide) ?_
  refine XK.nilN ?_
  refine XK.seq ?_
  refine XK.seq ?_

  refine XK.region ?_
  refine xk_assign rfl (by decide) ?_
  refine XK.nilN ?_
  refine XK.envS [(3, .int .i64 0), (1, .pointer (some ⟨g1, 0, none⟩))] ?_
  refine XK.block ?_
  refine XK.loop (fun m e R H => ∃ (i : Nat), i ≤ n1 ∧ m = n1 - i ∧ e = [(3, .int .i64 i), (1, .pointer (some ⟨g1, 0, none⟩))] ∧ R = [all w] ∧ H = [HP.blk g1 30 [.slice A1 n1 k1, .slice A2 n2 k2, .slice A3 n3 k3, .slice A4 n4 k4]]) n1 ⟨0, by omega, rfl, rfl, rfl, rfl⟩ fun m e R H hI => ?_
  obtain ⟨i, hi, rfl, rfl, rfl, rfl⟩ := hI
  refine XK.seq ?_
  refine XK.seq ?_

  refine XK.region ?_
  refine xk_move rfl (by decide) ?_
  refine xk_field (off := 0) (by kernel_rfl) rfl (by decide) ?_
  refine xk_ld rfl ?_
  refine xk_len (el := 87) (by kernel_rfl) rfl (by decide) ?_
  refine xk_lss rfl rfl (by decide) ?_
  refine XK.nilN ?_
  refine XK.if_ rfl (fun hil => ?_) (fun hil => ?_)
  ·
    refine XK.skip ?_
    refine XK.norm ?_
    refine XK.seq ?_
    refine XK.block ?_
    refine XK.seq ?_
    have hil' : i < n1 := by have h' : (i : Int) < (n1 : Int) := hil; omega
    obtain ⟨c, hc⟩ : ∃ c, s.clocks[i]? = some c := ⟨_, List.getElem?_eq_getElem (by omega)⟩
    obtain ⟨b, off, r, rfl, hrl, hR, hro⟩ := hW.clk.row hc
    obtain ⟨Af, nf, kf, rfl, hnf, hsf⟩ := hR
    have hfit := hm.clocks i c hc

    refine XK.draw 8 (by kernel_rfl) (by kernel_rfl) ?_
    refine XA.dA 0 rfl rfl rfl (does_field (off := 0) (by kernel_rfl) rfl) ?_
    refine XA.dA 1 rfl rfl rfl (does_ld rfl) ?_
    refine XA.dA 2 rfl rfl rfl (does_move rfl) ?_
    refine XA.dA 3 rfl rfl rfl (does_at (i) (off + i * 6) (el := 87) (sz := 6) (by kernel_rfl) (by kernel_rfl) rfl rfl (by omega) (by omega) (by omega)) ?_
    refine XA.dA 4 rfl rfl rfl (does_loadN 6 (by kernel_rfl) rfl (RdN.of (vs := [.int .u8 c.kind, .slice Af nf kf, .int .u64 c.rate, .int .i64 c.mul, .int .i64 c.div, .int .i64 c.lock]) fun j v hj => Rd.roc (by simp) (hro.at_ (j := j) hj)) rfl) ?_
    refine XA.dA 5 rfl rfl rfl (does_field (off := 0) (by kernel_rfl) rfl) ?_
    refine XA.dA 6 rfl rfl rfl (does_ld rfl) ?_
    refine XA.dA 7 rfl rfl rfl (does_len (el := 87) (by kernel_rfl) rfl) ?_
    refine XA.next 8 rfl (by kernel_rfl) ?_
    refine xk_callR (f := 146) (fi := []) (ca := []) (by kernel_rfl) rfl rfl (by decide) (fun w1 st => refClock_any c i n1 Af nf kf w1 (SlS.le hsf (all_le (st.started (by simp)))) hnf hfit (by omega) (by omega)) ?_
    refine XA.bt ?_
    refine XA.next 9 rfl (by kernel_rfl) ?_
    refine xk_assign rfl (by decide) ?_
    refine XA.bt ?_
    refine XA.done (by kernel_rfl) ?_
    refine XK.norm ?_
    refine XK.seq ?_

    refine XK.region ?_
    refine xk_move rfl (by decide) ?_
    refine xk_neq rfl rfl (by decide) ?_
    refine XK.nilN ?_
    refine XK.if_ rfl (fun h => by first | exact absurd rfl h | exact absurd trivial h | exact False.elim h | (exfalso; omega) | cases h) (fun h => ?_)

    ·
      refine XK.skip ?_
      refine XK.norm ?_

      refine XK.region ?_
      refine xk_move rfl (by decide) ?_
      refine xk_add rfl rfl (wrap_in (by omega)) (by decide) ?_
      refine xk_assign rfl (by decide) ?_
      refine XK.nilN ?_
      exact XK.envS [(3, .int .i64 ((i : Int) + 1)), (1, .pointer (some ⟨g1, 0, none⟩))] (XK.round (n1 - (i + 1)) (by omega) ⟨i + 1, by omega, rfl, rfl, rfl, rfl⟩)
  ·
    refine XK.exit ?_
    refine XK.norm ?_
    refine XK.seq ?_

    refine XK.region ?_
    refine xk_ldN 4 rfl ?_
    refine xk_call [] (f := 58) (fi := []) (ca := []) (by kernel_rfl) rfl rfl (by decide) (by simp) (GrOk (clocksG s)) (fun w1 st => refClocks_any s A1 A2 A3 A4 n1 k1 n2 k2 n3 k3 n4 k4 w1 (hW.le (st.started (by simp)))) ?_
    rintro _ w1 qa ⟨Ag, cg, rfl, hgr⟩ hf _ _
    have hgr := hgr.le hf
    clear hf
    refine xk_callR (f := 112) (fi := []) (ca := []) (by kernel_rfl) rfl rfl (by decide) (fun w1 st => refCheck_any Ag _ cg (clocksG s) w1 (hgr.le (st.le (by simp))) rfl (by simp [clocksG]; omega) (fun l hl => by
        simp only [clocksG, List.mem_map] at hl
        obtain ⟨z, hz, rfl⟩ := hl
        have := hs5 z hz; omega) (made_clocks hm)) ?_
    refine xk_assign rfl (by decide) ?_
    refine XK.nilN ?_
    refine XK.ret ?_
    refine XK.norm ?_
    exact XK.ret1 rfl rfl fun w1 st => ⟨rfl, st.below (by simp)⟩

theorem refDomsE_any (s : Soc) (A1 A2 A3 A4 : Option Addr) (n1 k1 n2 k2 n3 k3 n4 k4 : Nat) (w : World) (hW : SocW w s A1 n1 A2 n2 A3 n3 A4 n4) (hm : s.made) : Calls Tryz.prog 120 #[.agg #[.slice A1 n1 k1, .slice A2 n2 k2, .slice A3 n3 k3, .slice A4 n4 k4]] w (Rt (.int .i64 0) w) := by
  have hn1 := hW.len1
  have hn2 := hW.len2
  have hn3 := hW.len3
  have hn4 := hW.len4
  have hnc := hm.nc
  have hnd := hm.nd
  have hnr := hm.nr
  have hnv := hm.nv
  refine XK.enter (vs := [.agg #[.slice A1 n1 k1, .slice A2 n2 k2, .slice A3 n3 k3, .slice A4 n4 k4]]) Tryz.func120 rfl Tryz.ntmps120 (by simp) ?_
  refine XK.seq ?_

  refine XK.region ?_
  refine xk_box rfl (by decide) fun g1 => ?_
  refine xk_assign rfl (by decide) ?_
  refine XK.nilN ?_
  refine XK.seq ?_
  refine XK.seq ?_

  refine XK.region ?_
  refine xk_assign rfl (by decide) ?_
  refine XK.nilN ?_
  refine XK.envS [(3, .int .i64 0), (1, .pointer (some ⟨g1, 0, none⟩))] ?_
  refine XK.block ?_
  refine XK.loop (fun m e R H => ∃ (i : Nat), i ≤ n2 ∧ m = n2 - i ∧ e = [(3, .int .i64 i), (1, .pointer (some ⟨g1, 0, none⟩))] ∧ R = [all w] ∧ H = [HP.blk g1 30 [.slice A1 n1 k1, .slice A2 n2 k2, .slice A3 n3 k3, .slice A4 n4 k4]]) n2 ⟨0, by omega, rfl, rfl, rfl, rfl⟩ fun m e R H hI => ?_
  obtain ⟨i, hi, rfl, rfl, rfl, rfl⟩ := hI
  refine XK.seq ?_
  refine XK.seq ?_

  refine XK.region ?_
  refine xk_move rfl (by decide) ?_
  refine xk_field (off := 1) (by kernel_rfl) rfl (by decide) ?_
  refine xk_ld rfl ?_
  refine xk_len (el := 89) (by kernel_rfl) rfl (by decide) ?_
  refine xk_lss rfl rfl (by decide) ?_
  refine XK.nilN ?_
  refine XK.if_ rfl (fun hil => ?_) (fun hil => ?_)
  ·
    refine XK.skip ?_
    refine XK.norm ?_
    refine XK.seq ?_
    refine XK.block ?_
    refine XK.seq ?_
    have hil' : i < n2 := by have h' : (i : Int) < (n2 : Int) := hil; omega
    obtain ⟨d, hd⟩ : ∃ d, s.domains[i]? = some d := ⟨_, List.getElem?_eq_getElem (by omega)⟩
    obtain ⟨b, off, r, rfl, hrl, rfl, hro⟩ := hW.dom.row hd
    obtain ⟨hd1, hd2, hd3⟩ := hm.domains i d hd

    refine XK.region ?_
    refine xk_field (off := 1) (by kernel_rfl) rfl (by decide) ?_
    refine xk_ld rfl ?_
    refine xk_move rfl (by decide) ?_
    refine xk_at (i) (off + i * 3) (el := 89) (sz := 3) (by kernel_rfl) (by kernel_rfl) rfl rfl (by omega) (by omega) (by omega) (by decide) ?_
    refine xk_loadN 3 (by kernel_rfl) rfl (RdN.of (vs := [.int .i64 d.above, .int .i64 d.delay, .bool d.ret]) fun j v hj => Rd.roc (by simp) (hro.at_ (j := j) hj)) rfl (by decide) ?_
    refine xk_alloc (cs := [.int .i64 0, .int .i64 0, .bool false]) (zeroB_of (by kernel_rfl)) (by decide) fun g2 => ?_
    (first | (refine xk_storeN 0 rfl rfl rfl (by kernel_rfl) (by simp [Value.cells, Value.oneCell']) (by simp [Value.cells]) ?_) | (refine xk_storeN 1 rfl rfl rfl (by kernel_rfl) (by simp [Value.cells, Value.oneCell']) (by simp [Value.cells]) ?_) | (refine xk_storeN 2 rfl rfl rfl (by kernel_rfl) (by simp [Value.cells, Value.oneCell']) (by simp [Value.cells]) ?_) | (refine xk_storeN 3 rfl rfl rfl (by kernel_rfl) (by simp [Value.cells, Value.oneCell']) (by simp [Value.cells]) ?_) | (refine xk_storeN 4 rfl rfl rfl (by kernel_rfl) (by simp [Value.cells, Value.oneCell']) (by simp [Value.cells]) ?_) | (refine xk_storeN 5 rfl rfl rfl (by kernel_rfl) (by simp [Value.cells, Value.oneCell']) (by simp [Value.cells]) ?_) | (refine xk_storeN 6 rfl rfl rfl (by kernel_rfl) (by simp [Value.cells, Value.oneCell']) (by simp [Value.cells]) ?_) | (refine xk_storeN 7 rfl rfl rfl (by kernel_rfl) (by simp [Value.cells, Value.oneCell']) (by simp [Value.cells]) ?_) | (refine xk_storeN 8 rfl rfl rfl (by kernel_rfl) (by simp [Value.cells, Value.oneCell']) (by simp [Value.cells]) ?_)); simp only [putN, Value.cells, List.set, List.take, List.drop, List.nil_append, List.append_nil, List.length_cons, List.length_nil, List.cons_append, Nat.reduceAdd]
    refine XK.nilN ?_
    refine XK.seq ?_
    refine XK.cutB 28 (False) ?_ ?_
    · skip

      refine XK.region ?_
      refine xk_field (off := 0) (by kernel_rfl) rfl (by decide) ?_
      refine xk_ld rfl ?_
      refine xk_neq rfl rfl (by decide) ?_
      refine xk_move rfl (by decide) ?_
      refine xk_split (t := 20) rfl (fun hg20 => ?_) (fun hg20 => ?_)
      ·
        refine xk_guardT rfl rfl ?_; refine xk_field (off := 0) (by kernel_rfl) rfl (by decide) ?_
        refine xk_guardT rfl rfl ?_; refine xk_ld rfl ?_
        refine xk_guardT rfl rfl ?_; refine xk_field (off := 1) (by kernel_rfl) rfl (by decide) ?_
        refine xk_guardT rfl rfl ?_; refine xk_ld rfl ?_
        refine xk_guardT rfl rfl ?_; refine xk_len (el := 89) (by kernel_rfl) rfl (by decide) ?_
        refine xk_guardT rfl rfl ?_; refine xk_callR (f := 147) (fi := []) (ca := []) (by kernel_rfl) rfl rfl (by decide) (fun w1 st => refIn4_any _ _ w1) ?_
        refine xk_guardT rfl rfl ?_; refine xk_notD rfl (by decide) ?_
        (first | refine xk_pickT rfl rfl (by decide) ?_ | refine xk_pickF rfl rfl (by decide) ?_)
        refine XK.nilN ?_
        exact XK.meetB (by repeat (first | exact trivial | refine ⟨rfl, ?_⟩)) (by first | (exfalso; omega) | (refine get_iff rfl ⟨fun _ => trivial, fun _ => ?_⟩; omega) | (refine get_iff rfl ⟨fun hh => ?_, fun hh => hh.elim⟩; omega) | exact get_true rfl trivial | (refine get_false rfl ?_; exact id))
      ·
        refine xk_guardF rfl rfl rfl (by decide) ?_
        refine xk_guardF rfl rfl rfl (by decide) ?_
        refine xk_guardF rfl rfl rfl (by decide) ?_
        refine xk_guardF rfl rfl rfl (by decide) ?_
        refine xk_guardF rfl rfl rfl (by decide) ?_
        refine xk_guardF rfl rfl rfl (by decide) ?_
        refine xk_guardF rfl rfl rfl (by decide) ?_
        (first | refine xk_pickT rfl rfl (by decide) ?_ | refine xk_pickF rfl rfl (by decide) ?_)
        refine XK.nilN ?_
        exact XK.meetB (by repeat (first | exact trivial | refine ⟨rfl, ?_⟩)) (by first | (exfalso; omega) | (refine get_iff rfl ⟨fun _ => trivial, fun _ => ?_⟩; omega) | (refine get_iff rfl ⟨fun hh => ?_, fun hh => hh.elim⟩; omega) | exact get_true rfl trivial | (refine get_false rfl ?_; exact id))
    refine XK.if_ rfl (fun h => by first | exact absurd rfl h | exact absurd trivial h | exact False.elim h | (exfalso; omega) | cases h) (fun h => ?_)

    ·
      refine XK.skip ?_
      refine XK.norm ?_
      refine XK.seq ?_

      refine XK.region ?_
      refine xk_field (off := 1) (by kernel_rfl) rfl (by decide) ?_
      refine xk_ld rfl ?_
      refine xk_callR (f := 121) (fi := []) (ca := []) (by kernel_rfl) rfl rfl (by decide) (fun w1 st => refWithin_any _ _ _ w1) ?_
      refine xk_notD rfl (by decide) ?_
      refine XK.nilN ?_
      refine XK.if_ rfl (fun h => by first | exact absurd rfl h | exact absurd trivial h | exact False.elim h | (exfalso; omega) | cases h) (fun h => ?_)

      ·
        refine XK.skip ?_
        refine XK.norm ?_

        refine XK.region ?_
        refine xk_move rfl (by decide) ?_
        refine xk_add rfl rfl (wrap_in (by omega)) (by decide) ?_
        refine xk_assign rfl (by decide) ?_
        refine XK.nilN ?_
        exact XK.weak [1] rfl (by decide) (fun _ h => h) (XK.envS [(3, .int .i64 ((i : Int) + 1)), (1, .pointer (some ⟨g1, 0, none⟩))] (XK.round (n2 - (i + 1)) (by omega) ⟨i + 1, by omega, rfl, rfl, rfl, rfl⟩))
  ·
    refine XK.exit ?_
    refine XK.norm ?_
    refine XK.seq ?_

    refine XK.region ?_
    refine xk_ldN 4 rfl ?_
    refine xk_call [] (f := 57) (fi := []) (ca := []) (by kernel_rfl) rfl rfl (by decide) (by simp) (GrOk (domsG s)) (fun w1 st => refDoms_any s A1 A2 A3 A4 n1 k1 n2 k2 n3 k3 n4 k4 w1 (hW.le (st.started (by simp)))) ?_
    rintro _ w1 qa ⟨Ag, cg, rfl, hgr⟩ hf _ _
    have hgr := hgr.le hf
    clear hf
    refine xk_callR (f := 112) (fi := []) (ca := []) (by kernel_rfl) rfl rfl (by decide) (fun w1 st => refCheck_any Ag _ cg (domsG s) w1 (hgr.le (st.le (by simp))) rfl (by simp [domsG]; omega) (fun l hl => by
        simp only [domsG, List.mem_map] at hl
        obtain ⟨z, _, rfl⟩ := hl
        split <;> simp) (made_doms hm)) ?_
    refine xk_assign rfl (by decide) ?_
    refine XK.nilN ?_
    refine XK.ret ?_
    refine XK.norm ?_
    exact XK.ret1 rfl rfl fun w1 st => ⟨rfl, st.below (by simp)⟩

theorem refNeeds_any (s : Soc) (A1 A2 A3 A4 : Option Addr) (n1 k1 n2 k2 n3 k3 n4 k4 : Nat) (w : World) (hW : SocW w s A1 n1 A2 n2 A3 n3 A4 n4) :
    Calls Tryz.prog 73 #[.agg #[.slice A1 n1 k1, .slice A2 n2 k2, .slice A3 n3 k3, .slice A4 n4 k4]] w (fun y w' => (∃ v, y = .returned v ∧ GrOk (needsG s) v w w') ∧ Below w.heap.size w w') := by
  have hn := hW.len4
  have hsm := hW.small
  unfold Soc.small at hsm
  obtain ⟨hs1, hs2, hs3, hs4, hs5, hs6⟩ := hsm
  refine XK.enter (vs := [.agg #[.slice A1 n1 k1, .slice A2 n2 k2, .slice A3 n3 k3, .slice A4 n4 k4]]) Tryz.func73 rfl Tryz.ntmps73 (by simp) ?_
  refine XK.seq ?_

  refine XK.region ?_
  refine xk_box rfl (by decide) fun g1 => ?_
  refine xk_assign rfl (by decide) ?_
  refine XK.nilN ?_
  refine XK.seq ?_

  refine XK.region ?_
  refine xk_assign rfl (by decide) ?_
  refine XK.nilN ?_
  refine XK.seq ?_
  refine XK.seq ?_

  refine XK.region ?_
  refine xk_assign rfl (by decide) ?_
  refine XK.nilN ?_
  refine XK.envS [(4, .int .i64 0), (3, .slice none 0 0), (1, .pointer (some ⟨g1, 0, none⟩))] ?_
  refine XK.nilrow 22 1 ?_
  refine XK.still [] [] [0, 1] (by simp) rfl (by decide) (by decide) fun q0 _ _ hfr0 => ?_
  refine XK.block ?_
  refine XK.loop (fun m e R H => ∃ (k : Nat) (vs : List Value) (q : Piece) (Ag : Option Addr) (cg : Nat), k ≤ n4 ∧ m = n4 - k ∧ Fresh w q ∧ Rows (LstR (slq q)) 1 ((needsG s).take k) (vs.map fun v => [v]) ∧ e = [(4, .int .i64 k), (3, .slice Ag k cg), (1, .pointer (some ⟨g1, 0, none⟩))] ∧ R = [q, all w] ∧ H = [HP.own 22 1 (.slice Ag k cg) k vs, HP.blk g1 30 [.slice A1 n1 k1, .slice A2 n2 k2, .slice A3 n3 k3, .slice A4 n4 k4]]) n4 ⟨0, [], _, none, 0, by omega, rfl, hfr0 (by simp) (by simp), trivial, rfl, rfl, rfl⟩ fun m e R H hI => ?_
  obtain ⟨k, vs, q, Ag, cg, hk, rfl, hfq, hrows, rfl, rfl, rfl⟩ := hI
  refine XK.seq ?_
  refine XK.seq ?_

  refine XK.region ?_
  refine xk_move rfl (by decide) ?_
  refine xk_field (off := 3) (by kernel_rfl) rfl (by decide) ?_
  refine xk_ld rfl ?_
  refine xk_len (el := 94) (by kernel_rfl) rfl (by decide) ?_
  refine xk_lss rfl rfl (by decide) ?_
  refine XK.nilN ?_
  refine XK.if_ rfl (fun h => ?_) (fun h => ?_)
  ·
    refine XK.skip ?_
    refine XK.norm ?_
    refine XK.seq ?_
    refine XK.block ?_
    have hkn : k < s.devs.length := by omega
    obtain ⟨e, he⟩ : ∃ e, s.devs[k]? = some e := ⟨_, List.getElem?_eq_getElem hkn⟩
    obtain ⟨b, off, r, rfl, hrl, hR, hro⟩ := hW.dev.row he
    obtain ⟨Ar, nr, kr, Af, nf, kf, rfl, hnr9, hnf, hsr, hsf⟩ := hR
    have hgk : (needsG s)[k]? = some (e.needs) := by simp [needsG, he]

    refine XK.region ?_
    refine xk_move rfl (by decide) ?_
    refine xk_slice0 (el := 3) (sz := 1) (by kernel_rfl) (by kernel_rfl) (by decide) fun g4 => ?_
    refine XK.asOwn 0 1 0 rfl rfl (by omega) ?_
    dsimp only [List.set]
    refine xk_field (off := 3) (by kernel_rfl) rfl (by decide) ?_
    refine xk_ld rfl ?_
    refine xk_move rfl (by decide) ?_
    refine xk_at k (off + k * 6) (el := 94) (sz := 6) (by kernel_rfl) (by kernel_rfl) rfl rfl (by omega) (by omega) (by omega) (by decide) ?_
    refine xk_field (off := 5) (by kernel_rfl) rfl (by decide) ?_
    refine xk_load (by kernel_rfl) rfl (Rd.roc (by simp) (hro.at_ (j := 5) rfl)) (by decide) ?_
    refine xk_appendT 0 1 8 nf (n' := nf) (el := 3) (by kernel_rfl) (by kernel_rfl) (by decide) rfl rfl rfl (sl_ro (p := all w) (by simp) hsf) (by simp [intCells, Value.oneCell']) (by omega) (by have := hs6 e (List.mem_of_getElem? he); omega) (by have := hs6 e (List.mem_of_getElem? he); omega) (by decide) fun A5 c5 => ?_
    dsimp only [List.set, List.nil_append]
    refine xk_slice (el := 22) (sz := 1) (zs := [.slice none 0 0]) (by kernel_rfl) (zeroB_of (by kernel_rfl)) (by kernel_rfl) rfl (by decide) (by decide) rfl (by simp [fillL, setN, Value.cells, List.range_succ, List.set]; rfl) (by decide) fun g3 => ?_
    refine xk_appendT 2 1 24 1 (n' := k + 1) (el := 22) (by kernel_rfl) (by kernel_rfl) (by decide) rfl rfl rfl (sl_blk 0 rfl rfl) (by simp [Value.oneCell']) rfl (by omega) (by omega) (by decide) fun A6 c6 => ?_
    dsimp only [List.set]
    refine xk_assign rfl (by decide) ?_
    refine XK.nilN ?_

    refine XK.region ?_
    refine xk_move rfl (by decide) ?_
    refine xk_add rfl rfl (wrap_in (by omega)) (by decide) ?_
    refine xk_assign rfl (by decide) ?_
    refine XK.nilN ?_
    refine XK.still [q] [1] [2, 3] (by simp) rfl (by decide) (by decide) fun q' hq' hle hfr' => ?_
    obtain ⟨Fg, hsg, hzg⟩ := hq' 1 _ (by simp) rfl
    obtain ⟨A7, c7, e7, hso⟩ := SlS.of_own (Y := q'.Z) hsg hzg
    injection e7 with f1 f2 f3
    subst f1
    exact XK.weak [0, 1] rfl (by decide) (by simp) (XK.envS [(4, .int .i64 (k + 1)), (3, .slice A6 (k + 1) c6), (1, .pointer (some ⟨g1, 0, none⟩))] (XK.round (n4 - (k + 1)) (by omega) ⟨k + 1, vs ++ [_], q', A6, c6, by omega, rfl, hfr' (by simp) (by simpa using hfq), rows_next hrows (hle q (by simp)) hgk ⟨A5, nf, c5, rfl, hnf, hso⟩, rfl, rfl, rfl⟩))
  ·
    refine XK.exit ?_
    refine XK.norm ?_
    refine XK.seq ?_
    obtain rfl : k = n4 := by omega
    rw [List.take_of_length_le (by simp [needsG]; omega)] at hrows

    refine XK.region ?_
    refine xk_move rfl (by decide) ?_
    refine xk_assign rfl (by decide) ?_
    refine XK.nilN ?_
    refine XK.ret ?_
    refine XK.norm ?_
    refine XK.still [q] [0] [] (by simp) rfl (by decide) (by decide) fun q2 hq hle hfr => ?_
    have hgl : k = (needsG s).length := by simp [needsG]; omega
    exact XK.ret1 rfl rfl fun w1 st => ⟨⟨_, rfl, Ag, cg, by rw [← hgl], by rw [← hgl]; exact (GrS.ofOwn hrows (hle q (by simp)) (hq 0 _ (by simp) rfl) hgl).le (st.fresh_le (by simp) (hfr (by simp) (by simpa using hfq)))⟩, st.below (by simp)⟩

theorem refDevsE_any (s : Soc) (A1 A2 A3 A4 : Option Addr) (n1 k1 n2 k2 n3 k3 n4 k4 : Nat) (w : World) (hW : SocW w s A1 n1 A2 n2 A3 n3 A4 n4) (hm : s.made) : Calls Tryz.prog 122 #[.agg #[.slice A1 n1 k1, .slice A2 n2 k2, .slice A3 n3 k3, .slice A4 n4 k4]] w (Rt (.int .i64 0) w) := by
  have hn1 := hW.len1
  have hn2 := hW.len2
  have hn3 := hW.len3
  have hn4 := hW.len4
  have hnc := hm.nc
  have hnd := hm.nd
  have hnr := hm.nr
  have hnv := hm.nv
  have hsm := hW.small
  unfold Soc.small at hsm
  obtain ⟨hs1, hs2, hs3, hs4, hs5, hs6⟩ := hsm
  refine XK.enter (vs := [.agg #[.slice A1 n1 k1, .slice A2 n2 k2, .slice A3 n3 k3, .slice A4 n4 k4]]) Tryz.func122 rfl Tryz.ntmps122 (by simp) ?_
  refine XK.seq ?_

  refine XK.region ?_
  refine xk_box rfl (by decide) fun g1 => ?_
  refine xk_assign rfl (by decide) ?_
  refine XK.nilN ?_
  refine XK.seq ?_
  refine XK.seq ?_

  refine XK.region ?_
  refine xk_assign rfl (by decide) ?_
  refine XK.nilN ?_
  refine XK.envS [(3, .int .i64 0), (1, .pointer (some ⟨g1, 0, none⟩))] ?_
  refine XK.block ?_
  refine XK.loop (fun m e R H => ∃ (i : Nat), i ≤ n4 ∧ m = n4 - i ∧ e = [(3, .int .i64 i), (1, .pointer (some ⟨g1, 0, none⟩))] ∧ R = [all w] ∧ H = [HP.blk g1 30 [.slice A1 n1 k1, .slice A2 n2 k2, .slice A3 n3 k3, .slice A4 n4 k4]]) n4 ⟨0, by omega, rfl, rfl, rfl, rfl⟩ fun m e R H hI => ?_
  obtain ⟨i, hi, rfl, rfl, rfl, rfl⟩ := hI
  refine XK.seq ?_
  refine XK.seq ?_

  refine XK.region ?_
  refine xk_move rfl (by decide) ?_
  refine xk_field (off := 3) (by kernel_rfl) rfl (by decide) ?_
  refine xk_ld rfl ?_
  refine xk_len (el := 94) (by kernel_rfl) rfl (by decide) ?_
  refine xk_lss rfl rfl (by decide) ?_
  refine XK.nilN ?_
  refine XK.if_ rfl (fun hil => ?_) (fun hil => ?_)
  ·
    refine XK.skip ?_
    refine XK.norm ?_
    refine XK.seq ?_
    refine XK.block ?_
    refine XK.seq ?_
    have hil' : i < n4 := by have h' : (i : Int) < (n4 : Int) := hil; omega
    obtain ⟨d, hd⟩ : ∃ d, s.devs[i]? = some d := ⟨_, List.getElem?_eq_getElem (by omega)⟩
    obtain ⟨b, off, r, rfl, hrl, hR, hro⟩ := hW.dev.row hd
    obtain ⟨Ar, nr, kr, An, nn, kn, rfl, hnr9, hnn9, hsr, hsn⟩ := hR
    obtain ⟨hd1, hd2, hd3, hd4, hd5, hd6, hd7, hd8, hd9, hd10, hd11, hd12⟩ := hm.devs i d hd

    refine XK.region ?_
    refine xk_field (off := 3) (by kernel_rfl) rfl (by decide) ?_
    refine xk_ld rfl ?_
    refine xk_move rfl (by decide) ?_
    refine xk_at (i) (off + i * 6) (el := 94) (sz := 6) (by kernel_rfl) (by kernel_rfl) rfl rfl (by omega) (by omega) (by omega) (by decide) ?_
    refine xk_loadN 6 (by kernel_rfl) rfl (RdN.of (vs := [.int .i64 d.clock, .int .i64 d.domain, .int .i64 d.reset, .int .u32 d.clamp, .slice Ar nr kr, .slice An nn kn]) fun j v hj => Rd.roc (by simp) (hro.at_ (j := j) hj)) rfl (by decide) ?_
    refine xk_alloc (cs := [.int .i64 0, .int .i64 0, .int .i64 0, .int .u32 0, .slice none 0 0, .slice none 0 0]) (zeroB_of (by kernel_rfl)) (by decide) fun g2 => ?_
    (first | (refine xk_storeN 0 rfl rfl rfl (by kernel_rfl) (by simp [Value.cells, Value.oneCell']) (by simp [Value.cells]) ?_) | (refine xk_storeN 1 rfl rfl rfl (by kernel_rfl) (by simp [Value.cells, Value.oneCell']) (by simp [Value.cells]) ?_) | (refine xk_storeN 2 rfl rfl rfl (by kernel_rfl) (by simp [Value.cells, Value.oneCell']) (by simp [Value.cells]) ?_) | (refine xk_storeN 3 rfl rfl rfl (by kernel_rfl) (by simp [Value.cells, Value.oneCell']) (by simp [Value.cells]) ?_) | (refine xk_storeN 4 rfl rfl rfl (by kernel_rfl) (by simp [Value.cells, Value.oneCell']) (by simp [Value.cells]) ?_) | (refine xk_storeN 5 rfl rfl rfl (by kernel_rfl) (by simp [Value.cells, Value.oneCell']) (by simp [Value.cells]) ?_) | (refine xk_storeN 6 rfl rfl rfl (by kernel_rfl) (by simp [Value.cells, Value.oneCell']) (by simp [Value.cells]) ?_) | (refine xk_storeN 7 rfl rfl rfl (by kernel_rfl) (by simp [Value.cells, Value.oneCell']) (by simp [Value.cells]) ?_) | (refine xk_storeN 8 rfl rfl rfl (by kernel_rfl) (by simp [Value.cells, Value.oneCell']) (by simp [Value.cells]) ?_)); simp only [putN, Value.cells, List.set, List.take, List.drop, List.nil_append, List.append_nil, List.length_cons, List.length_nil, List.cons_append, Nat.reduceAdd]
    refine XK.nilN ?_
    refine XK.seq ?_
    refine XK.cutB 42 (False) ?_ ?_
    · skip

      refine XK.region ?_
      refine xk_field (off := 0) (by kernel_rfl) rfl (by decide) ?_
      refine xk_ld rfl ?_
      refine xk_field (off := 0) (by kernel_rfl) rfl (by decide) ?_
      refine xk_ld rfl ?_
      refine xk_len (el := 87) (by kernel_rfl) rfl (by decide) ?_
      refine xk_callR (f := 147) (fi := []) (ca := []) (by kernel_rfl) rfl rfl (by decide) (fun w1 st => refIn4_any _ _ w1) ?_
      refine xk_notD rfl (by decide) ?_
      refine xk_move rfl (by decide) ?_
      refine xk_split (t := 25) rfl (fun hg25 => ?_) (fun hg25 => ?_)
      ·
        refine xk_guardF rfl rfl rfl (by decide) ?_
        refine xk_guardF rfl rfl rfl (by decide) ?_
        refine xk_guardF rfl rfl rfl (by decide) ?_
        refine xk_guardF rfl rfl rfl (by decide) ?_
        refine xk_guardF rfl rfl rfl (by decide) ?_
        refine xk_guardF rfl rfl rfl (by decide) ?_
        refine xk_guardF rfl rfl rfl (by decide) ?_
        (first | refine xk_pickT rfl rfl (by decide) ?_ | refine xk_pickF rfl rfl (by decide) ?_)
        refine xk_move rfl (by decide) ?_
        refine xk_guardF rfl rfl rfl (by decide) ?_
        refine xk_guardF rfl rfl rfl (by decide) ?_
        refine xk_guardF rfl rfl rfl (by decide) ?_
        refine xk_guardF rfl rfl rfl (by decide) ?_
        refine xk_guardF rfl rfl rfl (by decide) ?_
        refine xk_guardF rfl rfl rfl (by decide) ?_
        refine xk_guardF rfl rfl rfl (by decide) ?_
        (first | refine xk_pickT rfl rfl (by decide) ?_ | refine xk_pickF rfl rfl (by decide) ?_)
        refine XK.nilN ?_
        exact XK.meetB (by repeat (first | exact trivial | refine ⟨rfl, ?_⟩)) (by first | (exfalso; omega) | (refine get_iff rfl ⟨fun _ => trivial, fun _ => ?_⟩; omega) | (refine get_iff rfl ⟨fun hh => ?_, fun hh => hh.elim⟩; omega) | exact get_true rfl trivial | (refine get_false rfl ?_; exact id))
      ·
        refine xk_guardT rfl rfl ?_; refine xk_field (off := 1) (by kernel_rfl) rfl (by decide) ?_
        refine xk_guardT rfl rfl ?_; refine xk_ld rfl ?_
        refine xk_guardT rfl rfl ?_; refine xk_field (off := 1) (by kernel_rfl) rfl (by decide) ?_
        refine xk_guardT rfl rfl ?_; refine xk_ld rfl ?_
        refine xk_guardT rfl rfl ?_; refine xk_len (el := 89) (by kernel_rfl) rfl (by decide) ?_
        refine xk_guardT rfl rfl ?_; refine xk_callR (f := 147) (fi := []) (ca := []) (by kernel_rfl) rfl rfl (by decide) (fun w1 st => refIn4_any _ _ w1) ?_
        refine xk_guardT rfl rfl ?_; refine xk_notD rfl (by decide) ?_
        (first | refine xk_pickT rfl rfl (by decide) ?_ | refine xk_pickF rfl rfl (by decide) ?_)
        refine xk_move rfl (by decide) ?_
        refine xk_split (t := 34) rfl (fun hg34 => ?_) (fun hg34 => ?_)
        ·
          refine xk_guardF rfl rfl rfl (by decide) ?_
          refine xk_guardF rfl rfl rfl (by decide) ?_
          refine xk_guardF rfl rfl rfl (by decide) ?_
          refine xk_guardF rfl rfl rfl (by decide) ?_
          refine xk_guardF rfl rfl rfl (by decide) ?_
          refine xk_guardF rfl rfl rfl (by decide) ?_
          refine xk_guardF rfl rfl rfl (by decide) ?_
          (first | refine xk_pickT rfl rfl (by decide) ?_ | refine xk_pickF rfl rfl (by decide) ?_)
          refine XK.nilN ?_
          exact XK.meetB (by repeat (first | exact trivial | refine ⟨rfl, ?_⟩)) (by first | (exfalso; omega) | (refine get_iff rfl ⟨fun _ => trivial, fun _ => ?_⟩; omega) | (refine get_iff rfl ⟨fun hh => ?_, fun hh => hh.elim⟩; omega) | exact get_true rfl trivial | (refine get_false rfl ?_; exact id))
        ·
          refine xk_guardT rfl rfl ?_; refine xk_field (off := 2) (by kernel_rfl) rfl (by decide) ?_
          refine xk_guardT rfl rfl ?_; refine xk_ld rfl ?_
          refine xk_guardT rfl rfl ?_; refine xk_field (off := 2) (by kernel_rfl) rfl (by decide) ?_
          refine xk_guardT rfl rfl ?_; refine xk_ld rfl ?_
          refine xk_guardT rfl rfl ?_; refine xk_len (el := 91) (by kernel_rfl) rfl (by decide) ?_
          refine xk_guardT rfl rfl ?_; refine xk_callR (f := 147) (fi := []) (ca := []) (by kernel_rfl) rfl rfl (by decide) (fun w1 st => refIn4_any _ _ w1) ?_
          refine xk_guardT rfl rfl ?_; refine xk_notD rfl (by decide) ?_
          (first | refine xk_pickT rfl rfl (by decide) ?_ | refine xk_pickF rfl rfl (by decide) ?_)
          refine XK.nilN ?_
          exact XK.meetB (by repeat (first | exact trivial | refine ⟨rfl, ?_⟩)) (by first | (exfalso; omega) | (refine get_iff rfl ⟨fun _ => trivial, fun _ => ?_⟩; omega) | (refine get_iff rfl ⟨fun hh => ?_, fun hh => hh.elim⟩; omega) | exact get_true rfl trivial | (refine get_false rfl ?_; exact id))
    refine XK.if_ rfl (fun h => by first | exact absurd rfl h | exact absurd trivial h | exact False.elim h | (exfalso; omega) | cases h) (fun h => ?_)

    ·
      refine XK.skip ?_
      refine XK.norm ?_
      refine XK.seq ?_

      refine XK.region ?_
      refine xk_assign rfl (by decide) ?_
      refine XK.nilN ?_
      refine XK.envS [(5, .int .i64 0), (4, .pointer (some ⟨g2, 0, none⟩)), (3, .int .i64 i), (1, .pointer (some ⟨g1, 0, none⟩))] ?_
      refine XK.block ?_
      refine XK.loop (fun m e R H => ∃ (k : Nat), k ≤ nn ∧ m = nn - k ∧ e = [(5, .int .i64 k), (4, .pointer (some ⟨g2, 0, none⟩)), (3, .int .i64 i), (1, .pointer (some ⟨g1, 0, none⟩))] ∧ R = [all w] ∧ H = [HP.blk g2 94 [.int .i64 d.clock, .int .i64 d.domain, .int .i64 d.reset, .int .u32 d.clamp, .slice Ar nr kr, .slice An nn kn], HP.blk g1 30 [.slice A1 n1 k1, .slice A2 n2 k2, .slice A3 n3 k3, .slice (some ⟨b, off, none⟩) n4 k4]]) nn ⟨0, by omega, rfl, rfl, rfl, rfl⟩ fun m e R H hI => ?_
      obtain ⟨k, hk, rfl, rfl, rfl, rfl⟩ := hI
      refine XK.seq ?_
      refine XK.seq ?_

      refine XK.region ?_
      refine xk_move rfl (by decide) ?_
      refine xk_field (off := 5) (by kernel_rfl) rfl (by decide) ?_
      refine xk_ld rfl ?_
      refine xk_len (el := 3) (by kernel_rfl) rfl (by decide) ?_
      refine xk_lss rfl rfl (by decide) ?_
      refine XK.nilN ?_
      refine XK.if_ rfl (fun hkl => ?_) (fun hkl => ?_)
      ·
        refine XK.skip ?_
        refine XK.norm ?_
        refine XK.seq ?_
        refine XK.block ?_
        refine XK.seq ?_
        have hkl' : k < nn := by have h' : (k : Int) < (nn : Int) := hkl; omega
        obtain ⟨y, hy⟩ : ∃ y, d.needs[k]? = some y := ⟨_, List.getElem?_eq_getElem (by omega)⟩
        have hyb := hd12 y (List.mem_of_getElem? hy)
        obtain ⟨bI, oI, hAI, hcI⟩ := SlS.intR hsn (by omega)
        subst hAI
        have hcy := hcI k y hy

        refine XK.draw 8 (by kernel_rfl) (by kernel_rfl) ?_
        refine XA.dA 0 rfl rfl rfl (does_field (off := 5) (by kernel_rfl) rfl) ?_
        refine XA.dA 1 rfl rfl rfl (does_ld rfl) ?_
        refine XA.dA 2 rfl rfl rfl (does_move rfl) ?_
        refine XA.dA 3 rfl rfl rfl (does_at (k) (oI + k) (el := 3) (sz := 1) (by kernel_rfl) (by kernel_rfl) rfl rfl (by omega) (by omega) (by omega)) ?_
        refine XA.dA 4 rfl rfl rfl (does_load (by kernel_rfl) rfl (Rd.roc (by simp) hcy)) ?_
        refine XA.dA 5 rfl rfl rfl (does_field (off := 3) (by kernel_rfl) rfl) ?_
        refine XA.dA 6 rfl rfl rfl (does_ld rfl) ?_
        refine XA.dA 7 rfl rfl rfl (does_len (el := 94) (by kernel_rfl) rfl) ?_
        refine XA.next 8 rfl (by kernel_rfl) ?_
        refine xk_callR (f := 147) (fi := []) (ca := []) (by kernel_rfl) rfl rfl (by decide) (fun w1 st => refIn4_any _ _ w1) ?_
        refine XA.bt ?_
        refine XA.next 9 rfl (by kernel_rfl) ?_
        refine xk_notD rfl (by decide) ?_
        refine XA.bt ?_
        refine XA.done (by kernel_rfl) ?_
        refine XK.norm ?_
        refine XK.if_ rfl (fun h => by first | exact absurd rfl h | exact absurd trivial h | exact False.elim h | (exfalso; omega) | cases h) (fun h => ?_)

        ·
          refine XK.skip ?_
          refine XK.norm ?_

          refine XK.region ?_
          refine xk_move rfl (by decide) ?_
          refine xk_add rfl rfl (wrap_in (by omega)) (by decide) ?_
          refine xk_assign rfl (by decide) ?_
          refine XK.nilN ?_
          exact XK.envS [(5, .int .i64 ((k : Int) + 1)), (4, .pointer (some ⟨g2, 0, none⟩)), (3, .int .i64 i), (1, .pointer (some ⟨g1, 0, none⟩))] (XK.round (nn - (k + 1)) (by omega) ⟨k + 1, by omega, rfl, rfl, rfl, rfl⟩)
      ·
        refine XK.exit ?_
        refine XK.norm ?_

        refine XK.region ?_
        refine xk_move rfl (by decide) ?_
        refine xk_add rfl rfl (wrap_in (by omega)) (by decide) ?_
        refine xk_assign rfl (by decide) ?_
        refine XK.nilN ?_
        exact XK.weak [1] rfl (by decide) (fun _ h => h) (XK.envS [(3, .int .i64 ((i : Int) + 1)), (1, .pointer (some ⟨g1, 0, none⟩))] (XK.round (n4 - (i + 1)) (by omega) ⟨i + 1, by omega, rfl, rfl, rfl, rfl⟩))
  ·
    refine XK.exit ?_
    refine XK.norm ?_
    refine XK.seq ?_

    refine XK.region ?_
    refine xk_ldN 4 rfl ?_
    refine xk_call [] (f := 73) (fi := []) (ca := []) (by kernel_rfl) rfl rfl (by decide) (by simp) (GrOk (needsG s)) (fun w1 st => refNeeds_any s A1 A2 A3 A4 n1 k1 n2 k2 n3 k3 n4 k4 w1 (hW.le (st.started (by simp)))) ?_
    rintro _ w1 qa ⟨Ag, cg, rfl, hgr⟩ hf _ _
    have hgr := hgr.le hf
    clear hf
    refine xk_callR (f := 112) (fi := []) (ca := []) (by kernel_rfl) rfl rfl (by decide) (fun w1 st => refCheck_any Ag _ cg (needsG s) w1 (hgr.le (st.le (by simp))) rfl (by simp [needsG]; omega) (fun l hl => by
        simp only [needsG, List.mem_map] at hl
        obtain ⟨z, hz, rfl⟩ := hl
        have := hs6 z hz; omega) (made_needs hm)) ?_
    refine xk_assign rfl (by decide) ?_
    refine XK.nilN ?_
    refine XK.ret ?_
    refine XK.norm ?_
    exact XK.ret1 rfl rfl fun w1 st => ⟨rfl, st.below (by simp)⟩

theorem refChk_any (s : Soc) (A1 A2 A3 A4 : Option Addr) (n1 k1 n2 k2 n3 k3 n4 k4 : Nat) (w : World) (hW : SocW w s A1 n1 A2 n2 A3 n3 A4 n4) (hm : s.made) : Calls Tryz.prog 72 #[.agg #[.slice A1 n1 k1, .slice A2 n2 k2, .slice A3 n3 k3, .slice A4 n4 k4]] w (Rt (.int .i64 0) w) := by
  have hn1 := hW.len1
  have hn2 := hW.len2
  have hn3 := hW.len3
  have hn4 := hW.len4
  have hnc := hm.nc
  have hnd := hm.nd
  have hnr := hm.nr
  have hnv := hm.nv
  refine XK.enter (vs := [.agg #[.slice A1 n1 k1, .slice A2 n2 k2, .slice A3 n3 k3, .slice A4 n4 k4]]) Tryz.func72 rfl Tryz.ntmps72 (by simp) ?_
  refine XK.seq ?_

  refine XK.region ?_
  refine xk_box rfl (by decide) fun g1 => ?_
  refine xk_assign rfl (by decide) ?_
  refine XK.nilN ?_
  refine XK.seq ?_
  refine XK.seq ?_

  refine XK.region ?_
  refine xk_ldN 4 rfl ?_
  refine xk_callR (f := 118) (fi := []) (ca := []) (by kernel_rfl) rfl rfl (by decide) (fun w1 st => refCounts_any s A1 A2 A3 A4 n1 k1 n2 k2 n3 k3 n4 k4 w1 (hW.le (st.started (by simp))) hm) ?_
  (first | refine xk_notD rfl (by decide) ?_ | refine xk_not rfl (by decide) ?_)
  refine XK.nilN ?_
  refine XK.if_ rfl (fun h => by first | exact absurd rfl h | cases h | (exfalso; omega)) (fun h => ?_)

  ·
    refine XK.skip ?_
    refine XK.norm ?_
    refine XK.seq ?_

    refine XK.region ?_
    refine xk_ldN 4 rfl ?_
    refine xk_callR (f := 119) (fi := []) (ca := []) (by kernel_rfl) rfl rfl (by decide) (fun w1 st => refClocksE_any s A1 A2 A3 A4 n1 k1 n2 k2 n3 k3 n4 k4 w1 (hW.le (st.started (by simp))) hm) ?_
    refine xk_assign rfl (by decide) ?_
    refine XK.nilN ?_
    refine XK.seq ?_
    refine XK.seq ?_

    refine XK.region ?_
    refine xk_move rfl (by decide) ?_
    refine xk_neq rfl rfl (by decide) ?_
    refine XK.nilN ?_
    refine XK.if_ rfl (fun h => by first | exact absurd rfl h | cases h | (exfalso; omega)) (fun h => ?_)

    ·
      refine XK.skip ?_
      refine XK.norm ?_
      refine XK.seq ?_

      refine XK.region ?_
      refine xk_ldN 4 rfl ?_
      refine xk_callR (f := 120) (fi := []) (ca := []) (by kernel_rfl) rfl rfl (by decide) (fun w1 st => refDomsE_any s A1 A2 A3 A4 n1 k1 n2 k2 n3 k3 n4 k4 w1 (hW.le (st.started (by simp))) hm) ?_
      refine xk_assign rfl (by decide) ?_
      refine XK.nilN ?_
      refine XK.seq ?_
      refine XK.seq ?_

      refine XK.region ?_
      refine xk_move rfl (by decide) ?_
      refine xk_neq rfl rfl (by decide) ?_
      refine XK.nilN ?_
      refine XK.if_ rfl (fun h => by first | exact absurd rfl h | cases h | (exfalso; omega)) (fun h => ?_)

      ·
        refine XK.skip ?_
        refine XK.norm ?_
        refine XK.seq ?_
        refine XK.seq ?_

        refine XK.region ?_
        refine xk_assign rfl (by decide) ?_
        refine XK.nilN ?_
        refine XK.envS [(4, .int .i64 0), (1, .pointer (some ⟨g1, 0, none⟩))] ?_
        refine XK.block ?_
        refine XK.loop (fun m e R H => ∃ (i : Nat), i ≤ n3 ∧ m = n3 - i ∧ e = [(4, .int .i64 i), (1, .pointer (some ⟨g1, 0, none⟩))] ∧ R = [all w] ∧ H = [HP.blk g1 30 [.slice A1 n1 k1, .slice A2 n2 k2, .slice A3 n3 k3, .slice A4 n4 k4]]) n3 ⟨0, by omega, rfl, rfl, rfl, rfl⟩ fun m e R H hI => ?_
        obtain ⟨i, hi, rfl, rfl, rfl, rfl⟩ := hI
        refine XK.seq ?_
        refine XK.seq ?_

        refine XK.region ?_
        refine xk_move rfl (by decide) ?_
        refine xk_field (off := 2) (by kernel_rfl) rfl (by decide) ?_
        refine xk_ld rfl ?_
        refine xk_len (el := 91) (by kernel_rfl) rfl (by decide) ?_
        refine xk_lss rfl rfl (by decide) ?_
        refine XK.nilN ?_
        refine XK.if_ rfl (fun hil => ?_) (fun hil => ?_)
        ·
          refine XK.skip ?_
          refine XK.norm ?_
          refine XK.seq ?_
          refine XK.block ?_
          refine XK.seq ?_

          refine XK.region ?_
          refine xk_field (off := 2) (by kernel_rfl) rfl (by decide) ?_
          refine xk_ld rfl ?_
          refine xk_move rfl (by decide) ?_
          have hil' : i < n3 := by have h' : (i : Int) < (n3 : Int) := hil; omega
          obtain ⟨r0, hr0⟩ : ∃ r0, s.resets[i]? = some r0 := ⟨_, List.getElem?_eq_getElem (by omega)⟩
          obtain ⟨b, off, r, rfl, hrl, rfl, hro⟩ := hW.rst.row hr0
          have hrb := hm.resets r0 (List.mem_of_getElem? hr0)
          refine xk_at (i) (off + i * 1) (el := 91) (sz := 1) (by kernel_rfl) (by kernel_rfl) rfl rfl (by omega) (by omega) (by omega) (by decide) ?_
          refine xk_field (off := 0) (by kernel_rfl) rfl (by decide) ?_
          refine xk_load (by kernel_rfl) rfl (Rd.roc (by simp) (hro.at_ (j := 0) rfl)) (by decide) ?_
          refine xk_callR (f := 121) (fi := []) (ca := []) (by kernel_rfl) rfl rfl (by decide) (fun w1 st => refWithin_any _ _ _ w1) ?_
          (first | refine xk_notD rfl (by decide) ?_ | refine xk_not rfl (by decide) ?_)
          refine XK.nilN ?_
          refine XK.if_ rfl (fun h => by first | exact absurd rfl h | cases h | (exfalso; omega)) (fun h => ?_)

          ·
            refine XK.skip ?_
            refine XK.norm ?_

            refine XK.region ?_
            refine xk_move rfl (by decide) ?_
            refine xk_add rfl rfl (wrap_in (by omega)) (by decide) ?_
            refine xk_assign rfl (by decide) ?_
            refine XK.nilN ?_
            exact XK.envS [(4, .int .i64 ((i : Int) + 1)), (1, .pointer (some ⟨g1, 0, none⟩))] (XK.round (n3 - (i + 1)) (by omega) ⟨i + 1, by omega, rfl, rfl, rfl, rfl⟩)
        ·
          refine XK.exit ?_
          refine XK.norm ?_
          refine XK.seq ?_

          refine XK.region ?_
          refine xk_ldN 4 rfl ?_
          refine xk_callR (f := 122) (fi := []) (ca := []) (by kernel_rfl) rfl rfl (by decide) (fun w1 st => refDevsE_any s A1 A2 A3 A4 n1 k1 n2 k2 n3 k3 n4 k4 w1 (hW.le (st.started (by simp))) hm) ?_
          refine xk_assign rfl (by decide) ?_
          refine XK.nilN ?_
          refine XK.ret ?_
          refine XK.norm ?_
          exact XK.ret1 rfl rfl fun w1 st => ⟨rfl, st.below (by simp)⟩

end Go.Proofs.YtbgibbbggajgaaaGreat
/- Events, as they lie in memory; what an audit counts and finds of them, in plain words; dead and each, walked. -/
namespace Go.Proofs.YtbgibbbggajgaaaGreat
set_option linter.all false
open Go.RowKit Go.Shelf
attribute [local go_sem] Oper.semAt_some
/-- an event: its cells, one by one; wA, wc: the slice of its words ws -/
structure Ev where
  kind : Int
  task : Int
  ck : Int
  dev : Int
  reg : Int
  cv : Int
  err : Int
  rv : Int
  aid : Int
  adev : Int
  adead : Bool
  av : Int
  alive : Bool
  wA : Option Addr
  wc : Nat
  ws : List Int
def Ev.cells (e : Ev) : List Value :=
  [.int .u8 e.kind, .int .i64 e.task, .int .u8 e.ck, .int .i64 e.dev, .int .i64 e.reg, .int .u32 e.cv, .int .i64 e.err, .int .u32 e.rv, .int .i64 e.aid, .int .i64 e.adev, .bool e.adead, .int .u32 e.av, .bool e.alive, .slice e.wA e.ws.length e.wc]
theorem Ev.cells_len (e : Ev) : e.cells.length = 14 := rfl
/-- the event at a place -/
def EvAt (w : World) (b o : Nat) (e : Ev) : Prop := ∀ f u, e.cells[f]? = some u → w.cell? ⟨b, o + f, none⟩ = some u
def isDead (e : Ev) : Bool := e.kind == 100 && (e.adead || !e.alive)

set_option maxHeartbeats 400000 in
theorem dead_any (b o : Nat) (e : Ev) (w : World) (h : EvAt w b o e) :
    Calls Tryz.prog 39 #[.pointer (some ⟨b, o, none⟩)] w fun x w' => x = .returned (.bool (isDead e)) ∧ w = w' := by
  have h0 := h 0 _ rfl
  have h10 := h 10 _ rfl
  have h12 := h 12 _ rfl
  simp only [Nat.add_zero] at h0
  unfold isDead
  by_cases hk : e.kind = 100
  · have hk' : (e.kind == 100) = true := by simpa using hk
    clear hk
    by_cases hd : e.adead = true
    · go_enter Tryz.func39, Tryz.ntmps39
      go_wp2
      go_ret
      simp [*]
    · go_enter Tryz.func39, Tryz.ntmps39
      go_wp2
      go_ret
      simp [*]
  · have hk' : (e.kind == 100) = false := by simpa using hk
    clear hk
    go_enter Tryz.func39, Tryz.ntmps39
    go_wp2
    go_ret
    simp [*]

/-- words as cells -/
def u32Cells (zs : List Int) : List Value := zs.map (Value.int .u32)
def EvWs (w : World) (B : Nat) (e : Ev) : Prop := Sl w B 1 e.wA e.ws.length (u32Cells e.ws)
/-- events in memory: a slice of 14 cells an element; their words -/
def Evs (w : World) (B : Nat) (A : Option Addr) (evs : List Ev) : Prop := Sl w B 14 A evs.length (evs.flatMap Ev.cells) ∧ ∀ e ∈ evs, EvWs w B e
theorem Evs.at_ {w : World} {B : Nat} {A : Option Addr} {evs : List Ev} (h : Evs w B A evs) {k : Nat} {e : Ev} (hk : evs[k]? = some e) :
    ∃ b off, A = some ⟨b, off, none⟩ ∧ b < B ∧ EvAt w b (off + k * 14) e := by
  have hlt : k < evs.length := by
    rcases Nat.lt_or_ge k evs.length with h | h
    · exact h
    · rw [List.getElem?_eq_none h] at hk; cases hk
  obtain ⟨b, off, hA, hb, hc⟩ := Sl.at_ h.1 hlt
  refine ⟨b, off, hA, hb, fun f u hu => ?_⟩
  have hf : f < 14 := by
    rcases Nat.lt_or_ge f 14 with h | h
    · exact h
    · rw [List.getElem?_eq_none (by rw [Ev.cells_len]; exact h)] at hu; cases hu
  exact hc f u (by rw [flat_get Ev.cells 14 evs (fun _ _ => rfl) k f e hk hf]; exact hu)
theorem Evs.below {w w' : World} {B : Nat} {A : Option Addr} {evs : List Ev} (h : Evs w B A evs) (hb : Below B w w') : Evs w' B A evs := ⟨h.1.below hb, fun e he => (h.2 e he).below hb⟩
theorem Evs.thn {w w' : World} {A : Option Addr} {evs : List Ev} (h : Evs w w.heap.size A evs) (hb : Below w.heap.size w w') : Evs w' w'.heap.size A evs := ⟨h.1.thn hb, fun e he => (h.2 e he).thn hb⟩

/-- the first k places -/
def ixs (n k : Nat) : List (Fin n) := (List.finRange n).take k
theorem ixs_succ {n k : Nat} (h : k < n) : ixs n (k + 1) = ixs n k ++ [⟨k, h⟩] := by
  unfold ixs
  rw [List.take_succ_eq_append_getElem (by simpa using h)]
  simp
theorem ixs_length {n k : Nat} (h : k ≤ n) : (ixs n k).length = k := by simp [ixs, h]
theorem ixs_all (n : Nat) : ixs n n = List.finRange n := List.take_of_length_le (by simp)

/-- what yield is handed at a place: the place, and where the event lies -/
def evEnc (b off n : Nat) (x : Fin n) : Array Value := #[.int .i64 (x.1 : Int), .pointer (some ⟨b, off + x.1 * 14, none⟩)]

set_option maxRecDepth 100000 in
set_option maxHeartbeats 2000000 in
theorem each1_in (l Bs n₀ B₁ B₂ B₃ b off len cap : Nat) (hlen : len ≤ 9223372036854775807) (J Jx : List (Fin len) → World → Prop)
    (hY : ∀ pre x W, J pre W → pre.length < len → YieldAt Fence.wide 9 Tryz.prog l (evEnc b off len x) W fun e W' =>
      (e = .returned (.bool true) ∧ J (pre ++ [x]) W' ∧ Keeps n₀ B₁ B₂ W W') ∨ (e = .returned (.bool false) ∧ Jx (pre ++ [x]) W' ∧ KeepsFrom B₃ W W'))
    (W : World) (hBs : Blk W Bs 23 #[.slice (some ⟨b, off, none⟩) len cap]) (hB : B₁ ≤ Bs) (h0 : J [] W) :
    CallsIn Fence.wide 9 Tryz.prog 64 #[.func (.yield l) #[] #[], .pointer (some ⟨Bs, 0, none⟩)] W fun e W' => (∃ v, e = .returned v) ∧
      ((∃ ys, ys = List.finRange len ∧ J ys W') ∨ (∃ pre, (∃ k, k < len ∧ pre = ixs len (k + 1)) ∧ Jx pre W')) := by
  refine callsIn_of_wp Tryz.func64 rfl trivial ?_ rfl
  simp only [Tryz.ntmps64, List.size_toArray, List.length_cons, List.length_nil, Nat.reduceAdd, Nat.reduceSub, Array.replicate_succ, Array.replicate_zero, List.push_toArray, List.append_toArray, List.nil_append, List.cons_append]
  have hc0 := hBs.cell 0
  simp at hc0
  gi_wp2
  gi_loopw [6] (fun i wr => ∃ k : Nat, k ≤ len ∧ i = .int .i64 k ∧ J (ixs len k) wr ∧ Keeps n₀ B₁ B₂ W wr)
    (fun i _ => len - (intOf i).toNat)
  case atStart => exact ⟨0, Nat.zero_le _, rfl, h0, Keeps.refl _ _ _ _⟩
  case round =>
    clear hc0
    obtain ⟨k, hk, rfl, hJs, hnx⟩ := hrel
    by_cases hlt : k < len
    · obtain ⟨fn, tmps, assign, body, hy, hR⟩ := hY _ ⟨k, hlt⟩ wr hJs (by rw [ixs_length hk]; exact hlt)
      unfold evEnc at hy
      dsimp only at hy
      have hBr := (hBs.keeps hnx hB).cell 0
      simp at hBr
      gi_wp2
      refine (round_deep hR).mono ?_
      rintro e W3 (⟨rfl, hJ3, hk3⟩ | ⟨rfl, hJx3, _⟩)
      · gi_wp2
        go_roundw
        case rel => exact ⟨k + 1, by omega, by simp, by rw [ixs_succ hlt]; exact hJ3, hnx.trans hk3⟩
        case measure => simp [intOf]; omega
      · gi_wp2
        refine bodyPost_ret (results_none rfl _ _ _) rfl ?_
        exact ⟨⟨_, rfl⟩, .inr ⟨_, ⟨k, hlt, (ixs_succ hlt).symm⟩, hJx3⟩⟩
    · obtain rfl : k = len := by omega
      gi_wp2
      go_end0
      exact ⟨⟨_, rfl⟩, .inl ⟨_, rfl, by rw [← ixs_all]; exact hJs⟩⟩

set_option maxRecDepth 100000 in
set_option maxHeartbeats 1000000 in
theorem each1_nil_in (l Bs : Nat) (A : Option Addr) (cap : Nat) (J : List (Fin 0) → World → Prop) (W : World) (hBs : Blk W Bs 23 #[.slice A 0 cap]) (h0 : J [] W) :
    CallsIn Fence.wide 9 Tryz.prog 64 #[.func (.yield l) #[] #[], .pointer (some ⟨Bs, 0, none⟩)] W fun e W' => (∃ v, e = .returned v) ∧ J [] W' := by
  refine callsIn_of_wp Tryz.func64 rfl trivial ?_ rfl
  simp only [Tryz.ntmps64, List.size_toArray, List.length_cons, List.length_nil, Nat.reduceAdd, Nat.reduceSub, Array.replicate_succ, Array.replicate_zero, List.push_toArray, List.append_toArray, List.nil_append, List.cons_append]
  have hc0 := hBs.cell 0
  simp at hc0
  gi_wp2
  gi_loopw [6] (fun i wr => i = .int .i64 0 ∧ J [] wr) (fun _ _ => 0)
  case atStart => exact ⟨rfl, h0⟩
  case round =>
    obtain ⟨rfl, hJs⟩ := hrel
    gi_wp2
    go_end0
    exact ⟨⟨_, rfl⟩, hJs⟩

theorem each_stops (Bs n₀ B₁ B₂ B₃ b off n cap : Nat) (A : Option Addr) (hA : 0 < n → A = some ⟨b, off, none⟩) (hn : n ≤ 9223372036854775807)
    (w : World) (hB : B₁ ≤ Bs) (hc : Blk w Bs 23 #[.slice A n cap]) :
    Seq Tryz.prog 64 #[.pointer (some ⟨Bs, 0, none⟩)] (evEnc b off n) (Keeps n₀ B₁ B₂) B₃ (fun ys => ys = List.finRange n) (fun pre => ∃ k, k < n ∧ pre = ixs n (k + 1)) n w := fun l J Jx W hW _ _ _ hY h0 => by
  have hc' := hc.below hW hc.lt
  rcases Nat.eq_zero_or_pos n with rfl | hpos
  · exact (each1_nil_in l Bs A cap J W hc' h0).mono fun e W' ⟨he, hj⟩ => ⟨he, .inl ⟨_, rfl, hj⟩⟩
  · rw [hA hpos] at hc'
    exact each1_in l Bs n₀ B₁ B₂ B₃ b off n cap hn J Jx hY W hc' hB h0

set_option maxHeartbeats 1000000 in
theorem each_any (A : Option Addr) (n cap : Nat) (w : World) :
    Calls Tryz.prog 38 #[.slice A n cap] w fun e w' => e = .returned (.func (.func 64) #[] #[.pointer (some ⟨w.heap.size, 0, none⟩)]) ∧ w' = w.alloc (.cells #[.slice A n cap] 23) := by
  go_enter Tryz.func38, Tryz.ntmps38
  go_wp2
  go_ret
  exact ⟨rfl, rfl⟩
end Go.Proofs.YtbgibbbggajgaaaGreat
/- The small logic: pointers that are not nil, parts of slices, maps of counts; events that a piece shows. -/
namespace Go.Proofs.YtbgibbbggajgaaaGreat
set_option linter.all false
open Go.RowKit
section
variable {P : Program} {N : Nat} {w0 : World} {e : Env} {R : List Piece} {H : List HP} {Q : Exit → Act → World → Prop} {ops : Array Oper} {rest : List Oper}
variable {d : Nat} {ty : TypeId} {pos : String} {aft : Array Edge}
theorem does_nilC {x : Operand} {a : Addr} (hx : e.ev x = some (.pointer (some a))) : Does P N w0 e R H ⟨some d, .nilCheck x, ty, pos, aft, none⟩ (.pointer (some a)) := does_of (fun b w hr => by simp [execOp, hr.ev hx])
theorem xk_nilC {x : Operand} {a : Addr} (hx : e.ev x = some (.pointer (some a))) (hd : d < N) (k : XK N w0 (wpList P ops Q rest) ((d, .pointer (some a)) :: e) R H) : XK N w0 (wpList P ops Q (⟨some d, .nilCheck x, ty, pos, aft, none⟩ :: rest)) e R H :=
  xk_pure hd (fun b w hr => by simp [execOp, hr.ev hx]) k
end
/-- events that a piece shows -/
def EvS (p : Piece) (A : Option Addr) (evs : List Ev) : Prop := SlS p 14 A evs.length (evs.flatMap Ev.cells)
theorem EvS.le {p q : Piece} {A : Option Addr} {evs : List Ev} (h : EvS p A evs) (hl : p.Le q) : EvS q A evs := SlS.le h hl
theorem EvS.ev {p : Piece} {b off : Nat} {evs : List Ev} (h : EvS p (some ⟨b, off, none⟩) evs) {k : Nat} {x : Ev} (hk : evs[k]? = some x) : p.Z b ∧ ∀ f u, x.cells[f]? = some u → p.w.cell? ⟨b, off + k * 14 + f, none⟩ = some u := by
  have hlt := (List.getElem?_eq_some_iff.1 hk).1
  obtain ⟨b', off', hA, hb, hc⟩ := SlS.at_ h hlt
  cases hA
  refine ⟨hb, fun f u hu => hc f u ?_⟩
  have hf : f < 14 := by
    rw [← Ev.cells_len x]
    rcases Nat.lt_or_ge f x.cells.length with h | h
    · exact h
    · rw [List.getElem?_eq_none h] at hu; cases hu
  rw [flat_get Ev.cells 14 evs (fun _ _ => Ev.cells_len _) k f x hk hf, hu]
/-! counts, as a map -/
def getC (l : List (Int × Int)) (k : Int) : Int := ((l.find? fun p => decide (p.1 = k)).map (·.2)).getD 0
def setC : List (Int × Int) → Int → Int → List (Int × Int)
  | [], k, v => [(k, v)]
  | (a, b) :: r, k, v => if a = k then (k, v) :: r else (a, b) :: setC r k v
def cntL (l : List (Int × Int)) : List (Int × Value) := l.map fun p => (p.1, .int .i64 p.2)
theorem mget_cnt : ∀ (l : List (Int × Int)) (k : Int), (mget (cntL l) k).getD (.int .i64 0) = .int .i64 (getC l k)
  | [], k => rfl
  | (a, b) :: l, k => by
    have ih := mget_cnt l k
    show (mget ((a, .int .i64 b) :: cntL l) k).getD _ = _
    rw [mget_cons]
    unfold getC
    rw [List.find?_cons]
    by_cases h : a = k
    · simp [h]
    · simp only [h, if_false, decide_false, Bool.false_eq_true]
      exact ih
theorem mset_cnt : ∀ (l : List (Int × Int)) (k v : Int), mset (cntL l) k (.int .i64 v) = cntL (setC l k v)
  | [], k, v => rfl
  | (a, b) :: l, k, v => by
    show mset ((a, .int .i64 b) :: cntL l) k _ = cntL (if a = k then _ else _)
    unfold mset
    by_cases h : a = k
    · rw [if_pos h, if_pos h]; rfl
    · rw [if_neg h, if_neg h, mset_cnt l k v]; rfl
end Go.Proofs.YtbgibbbggajgaaaGreat
