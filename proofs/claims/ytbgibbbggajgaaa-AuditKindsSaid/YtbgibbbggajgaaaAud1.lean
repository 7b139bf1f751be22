/- audit: each and calls, their iterators. -/
import Derived.Test.YtbgibbbggajgaaaAud0
import Derived.Test.YtbgibbbggajgaaaCalls
import Derived.Test.YtbgibbbggajgaaaPlan2
import Derived.Test.YtbgibbbggajgaaaEx
namespace Go.Proofs.Ytbgibbbggajgaaa
set_option linter.all false
open Go.RowKit
attribute [local irreducible] KC KI KQ
def evPtr (b off i : Nat) : Value := .pointer (some ⟨b, off + i * 14, none⟩)
def idEncs (b off : Nat) (ids : List Nat) : List (List Value) := ids.map fun (i : Nat) => [.int .i64 (i : Int), evPtr b off i]
theorem idEncs_get {b off k : Nat} {ids : List Nat} {vs : List Value} (h : (idEncs b off ids)[k]? = some vs) : ∃ i, ids[k]? = some i ∧ vs = [.int .i64 (i : Int), evPtr b off i] := by
  simp only [idEncs, List.getElem?_map, Option.map_eq_some_iff] at h
  obtain ⟨i, h, e⟩ := h
  exact ⟨i, h, e.symm⟩
def selI (evs : List Ev) (i : Nat) : Bool := (evs[i]?.map sel).getD false
def selIds (evs : List Ev) : List Nat := (List.range evs.length).filter (selI evs)

theorem each1_iter (p : Piece) (g1 b off n c : Nat) (A : Option Addr) (hA : 0 < n → A = some ⟨b, off, none⟩) (h1 : RP p g1 0 (.slice A n c)) (hn2 : (n : Int) ≤ 9223372036854775806) :
    Iter Try.prog 63 [.pointer (some ⟨g1, 0, none⟩)] (idEncs b off (List.range n)) p := by
  unfold Iter
  intro l J Jx W F hp hd hJ hF hY
  refine XC.enter (vs := [.func (.yield l) #[] #[], .pointer (some ⟨g1, 0, none⟩)]) Try.func63 rfl Try.ntmps63 (by simp) (St.iter hp hd hJ hF) ?_
  dsimp only [List.cons_append, List.nil_append]
  refine XC.seq ?_

  refine XC.regionW (by kernel_rfl) ?_
  refine xk_load (by kernel_rfl) rfl (h1.rd (by simp)) (by decide) ?_
  refine xk_len (el := 40) (by kernel_rfl) rfl (by decide) ?_
  refine xk_move rfl (by decide) ?_
  refine XC.endW ?_
  (repeat (first | refine XC.thenN ?_ | refine XC.thenE ?_ | refine XC.thenR ?_ | refine XC.inN ?_ | refine XC.inE ?_ | refine XC.inR ?_ | refine XC.inF rfl ?_))
  refine XK.env [(6, .int .i64 0), (5, .int .i64 n), (1, .pointer (some ⟨g1, 0, none⟩)), (0, .func (.yield l) #[] #[])] ⟨rfl, rfl, rfl, rfl, trivial⟩ ?_
  refine XC.block ?_
  refine XC.loop (fun m L e R H => ∃ k : Nat, k ≤ n ∧ m = n - k ∧ L = [] ∧ e = [(6, .int .i64 k), (5, .int .i64 n), (1, .pointer (some ⟨g1, 0, none⟩)), (0, .func (.yield l) #[] #[])] ∧ R = [p, nt W F] ∧ H = [J k, HP.marks []]) n ⟨0, by omega, rfl, rfl, rfl, rfl, rfl⟩ fun m L e R H hI => ?_
  obtain ⟨k, hk, rfl, rfl, rfl, rfl, rfl⟩ := hI
  refine XC.seq ?_

  refine XC.regionW (by kernel_rfl) ?_
  refine xk_lss rfl rfl (by decide) ?_
  refine XC.endW ?_
  (repeat (first | refine XC.thenN ?_ | refine XC.thenE ?_ | refine XC.thenR ?_ | refine XC.inN ?_ | refine XC.inE ?_ | refine XC.inR ?_ | refine XC.inF rfl ?_))
  refine XC.seq ?_
  refine XC.if_ rfl (fun h => ?_) (fun h => ?_)
  ·
    refine XC.skip ?_
    (repeat (first | refine XC.thenN ?_ | refine XC.thenE ?_ | refine XC.thenR ?_ | refine XC.inN ?_ | refine XC.inE ?_ | refine XC.inR ?_ | refine XC.inF rfl ?_))
    refine XC.seq ?_
    refine XC.block ?_
    refine XC.seq ?_
    have hkn : k < n := by omega
    obtain rfl := hA (by omega)

    refine XC.regionW (by kernel_rfl) ?_
    refine xk_move rfl (by decide) ?_
    refine xk_assign rfl (by decide) ?_
    refine XC.endW ?_
    (repeat (first | refine XC.thenN ?_ | refine XC.thenE ?_ | refine XC.thenR ?_ | refine XC.inN ?_ | refine XC.inE ?_ | refine XC.inR ?_ | refine XC.inF rfl ?_))
    refine XC.seq ?_

    refine XC.region ?_
    refine XI.op (by kernel_rfl) ?_; refine xk_move rfl (by decide) ?_; refine XI.back ?_
    refine XI.op (by kernel_rfl) ?_; refine xk_move rfl (by decide) ?_; refine XI.back ?_
    refine XI.op (by kernel_rfl) ?_; refine xk_load (by kernel_rfl) rfl (h1.rd (by simp)) (by decide) ?_; refine XI.back ?_
    refine XI.op (by kernel_rfl) ?_; refine xk_move rfl (by decide) ?_; refine XI.back ?_
    refine XI.op (by kernel_rfl) ?_; refine xk_at (k) (off + k * 14) (el := 40) (sz := 14) (by kernel_rfl) (by kernel_rfl) rfl rfl (by omega) (by omega) (by omega) (by decide) ?_; refine XI.back ?_
    refine XI.yield 0 rfl rfl (by decide) (by simp : nt W F ∈ [p, nt W F]) (Same.refl W) rfl (fun W1 F1 h1 h2 h3 => hY k _ W1 F1 (by simp [idEncs, hkn]; rfl) h1 h2 h3) ?_ ?_
    rotate_left
    ·
      refine XI.op (by kernel_rfl) ?_; refine xk_not rfl (by decide) ?_; refine XI.back ?_
      refine XI.nil ?_
      (repeat (first | refine XC.thenN ?_ | refine XC.thenE ?_ | refine XC.thenR ?_ | refine XC.inN ?_ | refine XC.inE ?_ | refine XC.inR ?_ | refine XC.inF rfl ?_))
      refine XC.cond rfl (fun _ => ?_) (fun h => by cases h)
      refine XC.ret ?_
      (repeat (first | refine XC.thenN ?_ | refine XC.thenE ?_ | refine XC.thenR ?_ | refine XC.inN ?_ | refine XC.inE ?_ | refine XC.inR ?_ | refine XC.inF rfl ?_))
      refine XC.ret0 (Hs := [Jx (k + 1)]) (.inl rfl) rfl fun w1 st => ?_
      obtain ⟨F', h1, h2⟩ := st.turns hF (by simp [nt]) (i := 0) rfl
      exact ⟨⟨_, rfl⟩, F', h2, .inr ⟨k, by simpa [idEncs] using hkn, h1⟩⟩
    dsimp only [List.set]
    refine XI.op (by kernel_rfl) ?_; refine xk_not rfl (by decide) ?_; refine XI.back ?_
    refine XI.nil ?_
    (repeat (first | refine XC.thenN ?_ | refine XC.thenE ?_ | refine XC.thenR ?_ | refine XC.inN ?_ | refine XC.inE ?_ | refine XC.inR ?_ | refine XC.inF rfl ?_))
    refine XC.cond rfl (fun h => by cases h) (fun _ => ?_)

    · skip
      refine XC.skip ?_
      (repeat (first | refine XC.thenN ?_ | refine XC.thenE ?_ | refine XC.thenR ?_ | refine XC.inN ?_ | refine XC.inE ?_ | refine XC.inR ?_ | refine XC.inF rfl ?_))

      refine XC.regionW (by kernel_rfl) ?_
      refine xk_add rfl rfl (wrap_in (by omega)) (by decide) ?_
      refine xk_move rfl (by decide) ?_
      refine XC.endW ?_
      (repeat (first | refine XC.thenN ?_ | refine XC.thenE ?_ | refine XC.thenR ?_ | refine XC.inN ?_ | refine XC.inE ?_ | refine XC.inR ?_ | refine XC.inF rfl ?_))
      exact XK.env [(6, .int .i64 (k + 1)), (5, .int .i64 n), (1, .pointer (some ⟨g1, 0, none⟩)), (0, .func (.yield l) #[] #[])] ⟨rfl, rfl, rfl, rfl, trivial⟩ (XC.round (n - (k + 1)) (by omega) ⟨k + 1, by omega, rfl, rfl, rfl, rfl, rfl⟩)
  ·
    refine XC.exit ?_
    (repeat (first | refine XC.thenN ?_ | refine XC.thenE ?_ | refine XC.thenR ?_ | refine XC.inN ?_ | refine XC.inE ?_ | refine XC.inR ?_ | refine XC.inF rfl ?_))
    have hkn : k = n := by omega
    subst hkn
    refine XC.ret0 (Hs := [J k]) (.inr rfl) rfl fun w1 st => ?_
    obtain ⟨F', h1, h2⟩ := st.turns hF (by simp [nt]) (i := 0) rfl
    exact ⟨⟨_, rfl⟩, F', h2, .inl (by simpa [idEncs] using h1)⟩

def EachOk (A : Option Addr) (n : Nat) (y : Value) (w w' : World) : Prop := ∃ g, y = .func (.func 63) #[] #[.pointer (some ⟨g, 0, none⟩)] ∧ ∀ q, (fresh w w').Le q → ∀ b off, (0 < n → A = some ⟨b, off, none⟩) → Iter Try.prog 63 [.pointer (some ⟨g, 0, none⟩)] (idEncs b off (List.range n)) q
theorem each_ok (A : Option Addr) (n c : Nat) (w : World) (hn2 : (n : Int) ≤ 9223372036854775806) : Calls Try.prog 39 #[.slice A n c] w (fun y w' => (∃ x, y = .returned x ∧ EachOk A n x w w') ∧ Below w.heap.size w w') := by
  refine XK.enter (vs := [.slice A n c]) Try.func39 rfl Try.ntmps39 (by simp) ?_
  refine XK.seq ?_

  refine XK.region ?_
  refine xk_box rfl (by decide) fun g1 => ?_
  refine xk_assign rfl (by decide) ?_
  refine XK.nil ?_
  (repeat (first | refine XK.thenN ?_ | refine XK.thenE ?_ | refine XK.thenR ?_ | refine XK.inN ?_ | refine XK.inE ?_ | refine XK.inR ?_ | refine XK.inF rfl ?_))
  refine XK.seq ?_

  refine XK.region ?_
  refine xk_func (vf := []) (vc := [.pointer (some ⟨g1, 0, none⟩)]) rfl rfl (by decide) ?_
  refine xk_assign rfl (by decide) ?_
  refine XK.nil ?_
  (repeat (first | refine XK.thenN ?_ | refine XK.thenE ?_ | refine XK.thenR ?_ | refine XK.inN ?_ | refine XK.inE ?_ | refine XK.inR ?_ | refine XK.inF rfl ?_))
  refine XK.ret ?_
  (repeat (first | refine XK.thenN ?_ | refine XK.thenE ?_ | refine XK.thenR ?_ | refine XK.inN ?_ | refine XK.inE ?_ | refine XK.inR ?_ | refine XK.inF rfl ?_))
  refine XK.still [] [0] [] (by simp) rfl (by decide) (by decide) fun q hq _ hfr => ?_
  refine XK.ret1 rfl rfl fun w1 st => ⟨⟨_, rfl, g1, rfl, fun q2 hf b off hA => ?_⟩, st.below (by simp)⟩
  exact each1_iter q2 g1 b off n c A hA ((RP.of_blk (o := 0) (v := .slice A n c) (hq 0 _ (by simp) rfl) rfl).le ((st.fresh_le (by simp) (hfr (by simp) (by simp))).trans' hf)) hn2

theorem calls1_iter (p : Piece) (g1 b off n c : Nat) (A : Option Addr) (evs : List Ev) (hn : n = evs.length) (hA : 0 < n → A = some ⟨b, off, none⟩) (h1 : RP p g1 0 (.slice A n c)) (hs : EvS p A evs) (hn2 : (n : Int) ≤ 9223372036854775806) :
    Iter Try.prog 64 [.pointer (some ⟨g1, 0, none⟩)] (idEncs b off (selIds evs)) p := by
  unfold Iter
  intro l J Jx W F hp hd hJ hF hY
  refine XC.enter (vs := [.func (.yield l) #[] #[], .pointer (some ⟨g1, 0, none⟩)]) Try.func64 rfl Try.ntmps64 (by simp) (St.iter hp hd hJ hF) ?_
  dsimp only [List.cons_append, List.nil_append]
  refine XC.seq ?_

  refine XC.regionW (by kernel_rfl) ?_
  refine xk_box rfl (by decide) fun g2 => ?_
  refine XC.endW ?_
  (repeat (first | refine XC.thenN ?_ | refine XC.thenE ?_ | refine XC.thenR ?_ | refine XC.inN ?_ | refine XC.inE ?_ | refine XC.inR ?_ | refine XC.inF rfl ?_))
  refine XC.seq ?_

  refine XC.regionW (by kernel_rfl) ?_
  refine xk_load (by kernel_rfl) rfl (h1.rd (by simp)) (by decide) ?_
  refine xk_call [] (f := 39) (fi := []) (ca := []) (by kernel_rfl) rfl rfl (by decide) (by simp) (EachOk A n) (fun w1 st => each_ok A n c w1 hn2) ?_
  rintro _ w1 q3 ⟨g3, rfl, hit'⟩ hf _ _
  have hit := hit' q3 hf b off hA
  clear hit' hf
  refine XC.endW ?_
  (repeat (first | refine XC.thenN ?_ | refine XC.thenE ?_ | refine XC.thenR ?_ | refine XC.inN ?_ | refine XC.inE ?_ | refine XC.inR ?_ | refine XC.inF rfl ?_))
  refine XC.block ?_
  refine XK.env [(6, .func (.func 63) #[] #[.pointer (some ⟨g3, 0, none⟩)]), (2, .pointer (some ⟨g2, 0, none⟩))] ⟨rfl, rfl, trivial⟩ ?_
  refine XC.range (gf := 63) (lb := [.pointer (some ⟨g3, 0, none⟩)]) (encs := idEncs b off (List.range n)) (p := q3) rfl (by kernel_rfl) hit (by simp) (fun vs hvs => ?_) (by decide) (fun k => [HP.blk g2 137 [.func (.yield l) #[] #[]], J (((List.range n).take k).filter (selI evs)).length]) (fun _ => [HP.blk g2 137 [.func (.yield l) #[] #[]], HP.ex fun i : Fin (selIds evs).length => Jx (i.1 + 1)])
    (fun k vs e1 H1 => ∃ i : Nat, (List.range n)[k]? = some i ∧ e1 = [(4, evPtr b off i), (3, .int .i64 (i : Int)), (2, .pointer (some ⟨g2, 0, none⟩))] ∧ H1 = [HP.blk g2 137 [.func (.yield l) #[] #[]], J (((List.range n).take k).filter (selI evs)).length]) rfl ?_ ?_ ?_ ?_
  · simp only [idEncs, List.mem_map] at hvs
    obtain ⟨i, _, rfl⟩ := hvs
    rfl
  ·
    intro l2 k vs W1 q X hvs hsm
    obtain ⟨i, hik, rfl⟩ := idEncs_get hvs
    dsimp only [bindE, List.cons_append, List.nil_append]
    refine XC.seq ?_

    refine XC.regionW (by kernel_rfl) ?_
    refine xk_assign rfl (by decide) ?_
    refine XC.endW ?_
    (repeat (first | refine XC.thenN ?_ | refine XC.thenE ?_ | refine XC.thenR ?_ | refine XC.inN ?_ | refine XC.inE ?_ | refine XC.inR ?_ | refine XC.inF rfl ?_))

    refine XC.regionW (by kernel_rfl) ?_
    refine xk_assign rfl (by decide) ?_
    refine XC.endW ?_
    (repeat (first | refine XC.thenN ?_ | refine XC.thenE ?_ | refine XC.thenR ?_ | refine XC.inN ?_ | refine XC.inE ?_ | refine XC.inR ?_ | refine XC.inF rfl ?_))
    refine XK.env [(4, evPtr b off i), (3, .int .i64 (i : Int)), (2, .pointer (some ⟨g2, 0, none⟩))] ⟨rfl, rfl, rfl, trivial⟩ ?_
    exact XC.assigned (H1 := [HP.blk g2 137 [.func (.yield l) #[] #[]], J (((List.range n).take k).filter (selI evs)).length]) ⟨i, hik, rfl, rfl⟩
  ·
    rintro l2 k vs W1 q X _ _ hvs hsm ⟨i, hik, rfl, rfl⟩
    have hin : i < n := List.mem_range.1 (List.mem_of_getElem? hik)
    obtain rfl := hA (by omega)
    obtain ⟨x, hev⟩ : ∃ x, evs[i]? = some x := ⟨_, List.getElem?_eq_getElem (by omega)⟩
    obtain ⟨hz, hcs⟩ := hs.ev hev
    dsimp only [List.cons_append, List.nil_append, evPtr]
    refine XC.block ?_
    refine XC.seq ?_
    refine XC.seq ?_

    refine XC.regionW (by kernel_rfl) ?_
    refine xk_move rfl (by decide) ?_
    refine xk_nilC rfl (by decide) ?_
    refine xk_field (off := 0) (by kernel_rfl) rfl (by decide) ?_
    refine xk_load (by kernel_rfl) rfl (Rd.ro (p := p) (by simp) hz (hcs 0 _ rfl)) (by decide) ?_
    refine xk_neq rfl rfl (by decide) ?_
    refine xk_move rfl (by decide) ?_
    (first | refine xk_split (t := 14) rfl (fun hg => ?_) (fun hg => ?_) | refine xk_splitB (t := 14) rfl (fun hg => ?_) (fun hg => ?_))
    ·
      refine xk_guardT rfl rfl ?_; refine xk_move rfl (by decide) ?_
      refine xk_guardT rfl rfl ?_; refine xk_nilC rfl (by decide) ?_
      refine xk_guardT rfl rfl ?_; refine xk_field (off := 0) (by kernel_rfl) rfl (by decide) ?_
      refine xk_guardT rfl rfl ?_; refine xk_load (by kernel_rfl) rfl (Rd.ro (p := p) (by simp) hz (hcs 0 _ rfl)) (by decide) ?_
      refine xk_guardT rfl rfl ?_; refine xk_neq rfl rfl (by decide) ?_
      (first | refine xk_pickT rfl rfl (by decide) ?_ | refine xk_pickF rfl rfl (by decide) ?_)
      refine XC.endW ?_
      (repeat (first | refine XC.thenN ?_ | refine XC.thenE ?_ | refine XC.thenR ?_ | refine XC.inN ?_ | refine XC.inE ?_ | refine XC.inR ?_ | refine XC.inF rfl ?_))
      refine XC.if_ rfl (fun h => ?_) (fun h => ?_)
      ·
        refine XC.exit ?_
        (repeat (first | refine XC.thenN ?_ | refine XC.thenE ?_ | refine XC.thenR ?_ | refine XC.inN ?_ | refine XC.inE ?_ | refine XC.inR ?_ | refine XC.inF rfl ?_))
        have hsel : selI evs i = false := by simp only [selI, hev, Option.map_some, Option.getD_some, sel]; simp_all; try (intros; omega)
        have hf2 := filter_skip hik hsel
        refine XK.weak [0, 1, 2] rfl (by decide) (fun _ hp => hp) ?_
        rw [← hf2]
        exact XC.bodyN
      ·
        refine XC.skip ?_
        (repeat (first | refine XC.thenN ?_ | refine XC.thenE ?_ | refine XC.thenR ?_ | refine XC.inN ?_ | refine XC.inE ?_ | refine XC.inR ?_ | refine XC.inF rfl ?_))
        refine XC.seq ?_

        refine XC.region ?_
        refine XI.op (by kernel_rfl) ?_; refine xk_move rfl (by decide) ?_; refine XI.back ?_
        refine XI.op (by kernel_rfl) ?_; refine xk_nilC rfl (by decide) ?_; refine XI.back ?_
        refine XI.op (by kernel_rfl) ?_; refine xk_field (off := 1) (by kernel_rfl) rfl (by decide) ?_; refine XI.back ?_
        refine XI.op (by kernel_rfl) ?_; refine xk_load (by kernel_rfl) rfl (Rd.ro (p := p) (by simp) hz (hcs 1 _ rfl)) (by decide) ?_; refine XI.back ?_
        refine XI.op (by kernel_rfl) ?_; refine xk_geq rfl rfl (by decide) ?_; refine XI.back ?_
        refine XI.op (by kernel_rfl) ?_; refine xk_move rfl (by decide) ?_; refine XI.back ?_
        (first | refine xk_split (t := 26) rfl (fun hg => ?_) (fun hg => ?_) | refine xk_splitB (t := 26) rfl (fun hg => ?_) (fun hg => ?_))
        ·
          refine XI.op (by kernel_rfl) ?_; refine xk_guardT rfl rfl ?_; refine xk_move rfl (by decide) ?_; refine XI.back ?_
          refine XI.op (by kernel_rfl) ?_; refine xk_guardT rfl rfl ?_; refine xk_nilC rfl (by decide) ?_; refine XI.back ?_
          refine XI.op (by kernel_rfl) ?_; refine xk_guardT rfl rfl ?_; refine xk_field (off := 1) (by kernel_rfl) rfl (by decide) ?_; refine XI.back ?_
          refine XI.op (by kernel_rfl) ?_; refine xk_guardT rfl rfl ?_; refine xk_load (by kernel_rfl) rfl (Rd.ro (p := p) (by simp) hz (hcs 1 _ rfl)) (by decide) ?_; refine XI.back ?_
          refine XI.op (by kernel_rfl) ?_; refine xk_guardT rfl rfl ?_; refine xk_lss rfl rfl (by decide) ?_; refine XI.back ?_
          refine XI.op (by kernel_rfl) ?_; (first | refine xk_pickT rfl rfl (by decide) ?_ | refine xk_pickF rfl rfl (by decide) ?_); refine XI.back ?_
          refine XI.op (by kernel_rfl) ?_; refine xk_move rfl (by decide) ?_; refine XI.back ?_
          (first | refine xk_split (t := 33) rfl (fun hg => ?_) (fun hg => ?_) | refine xk_splitB (t := 33) rfl (fun hg => ?_) (fun hg => ?_))
          ·
            refine XI.op (by kernel_rfl) ?_; refine xk_guardT rfl rfl ?_; refine xk_load (by kernel_rfl) rfl (Rd.blk 0 rfl rfl) (by decide) ?_; refine XI.back ?_
            refine XI.op (by kernel_rfl) ?_; refine xk_guardT rfl rfl ?_; refine xk_move rfl (by decide) ?_; refine XI.back ?_
            refine XI.op (by kernel_rfl) ?_; refine xk_guardT rfl rfl ?_; refine xk_move rfl (by decide) ?_; refine XI.back ?_
            have hsel : selI evs i = true := by simp only [selI, hev, Option.map_some, Option.getD_some, sel, Bool.and_eq_true, Bool.or_eq_true, beq_iff_eq, decide_eq_true_eq]; simp_all
            obtain ⟨hf1, hf2⟩ := filter_next hik hsel
            refine XI.guardT rfl rfl ?_
            refine XI.yield 1 rfl rfl (by decide) (by simp : nt W F ∈ [q3, p, nt W F, q]) hsm rfl (fun W2 F2 h1 h2 h3 => hY _ [.int .i64 (i : Int), evPtr b off i] W2 F2 (by rw [idEncs, List.getElem?_map, selIds, ← hn, hf1]; rfl) h1 h2 h3) ?_ ?_
            · dsimp only [List.set]
              refine XI.op (by kernel_rfl) ?_; refine xk_guardT rfl rfl ?_; refine xk_not rfl (by decide) ?_; refine XI.back ?_
              refine XI.op (by kernel_rfl) ?_; (first | refine xk_pickT rfl rfl (by decide) ?_ | refine xk_pickF rfl rfl (by decide) ?_); refine XI.back ?_
              refine XI.nil ?_
              (repeat (first | refine XC.thenN ?_ | refine XC.thenE ?_ | refine XC.thenR ?_ | refine XC.inN ?_ | refine XC.inE ?_ | refine XC.inR ?_ | refine XC.inF rfl ?_))
              refine XC.cond rfl (fun h => by cases h) (fun _ => ?_)
              refine XC.skip ?_
              (repeat (first | refine XC.thenN ?_ | refine XC.thenE ?_ | refine XC.thenR ?_ | refine XC.inN ?_ | refine XC.inE ?_ | refine XC.inR ?_ | refine XC.inF rfl ?_))
              rw [← hf2]
              exact XC.bodyN
            · dsimp only [List.set]
              refine XI.op (by kernel_rfl) ?_; refine xk_guardT rfl rfl ?_; refine xk_not rfl (by decide) ?_; refine XI.back ?_
              refine XI.op (by kernel_rfl) ?_; (first | refine xk_pickT rfl rfl (by decide) ?_ | refine xk_pickF rfl rfl (by decide) ?_); refine XI.back ?_
              refine XI.nil ?_
              (repeat (first | refine XC.thenN ?_ | refine XC.thenE ?_ | refine XC.thenR ?_ | refine XC.inN ?_ | refine XC.inE ?_ | refine XC.inR ?_ | refine XC.inF rfl ?_))
              refine XC.cond rfl (fun _ => ?_) (fun h => by cases h)
              refine XC.ret ?_
              (repeat (first | refine XC.thenN ?_ | refine XC.thenE ?_ | refine XC.thenR ?_ | refine XC.inN ?_ | refine XC.inE ?_ | refine XC.inR ?_ | refine XC.inF rfl ?_))
              rw [← hf2]
              refine XK.toEx 1 (f := fun i : Fin (selIds evs).length => Jx (i.1 + 1)) ⟨_, by rw [selIds, ← hn]; exact (List.getElem?_eq_some_iff.1 hf1).1⟩ (by rw [hf2]; rfl) ?_
              dsimp only [List.set]
              exact XC.bodyR
          ·
            refine XI.op (by kernel_rfl) ?_; refine xk_guardF rfl rfl rfl (by decide) ?_; refine XI.back ?_
            refine XI.op (by kernel_rfl) ?_; refine xk_guardF rfl rfl rfl (by decide) ?_; refine XI.back ?_
            refine XI.op (by kernel_rfl) ?_; refine xk_guardF rfl rfl rfl (by decide) ?_; refine XI.back ?_
            refine XI.op (by kernel_rfl) ?_; refine xk_guardF rfl rfl rfl (by decide) ?_; refine XI.back ?_
            refine XI.op (by kernel_rfl) ?_; refine xk_guardF rfl rfl rfl (by decide) ?_; refine XI.back ?_
            refine XI.op (by kernel_rfl) ?_; (first | refine xk_pickT rfl rfl (by decide) ?_ | refine xk_pickF rfl rfl (by decide) ?_); refine XI.back ?_
            refine XI.nil ?_
            (repeat (first | refine XC.thenN ?_ | refine XC.thenE ?_ | refine XC.thenR ?_ | refine XC.inN ?_ | refine XC.inE ?_ | refine XC.inR ?_ | refine XC.inF rfl ?_))
            refine XC.cond rfl (fun h => by cases h) (fun _ => ?_)
            refine XC.skip ?_
            (repeat (first | refine XC.thenN ?_ | refine XC.thenE ?_ | refine XC.thenR ?_ | refine XC.inN ?_ | refine XC.inE ?_ | refine XC.inR ?_ | refine XC.inF rfl ?_))
            have hsel : selI evs i = false := by simp only [selI, hev, Option.map_some, Option.getD_some, sel]; simp_all; try (intros; omega)
            have hf2 := filter_skip hik hsel
            refine XK.weak [0, 1, 2] rfl (by decide) (fun _ hp => hp) ?_
            rw [← hf2]
            exact XC.bodyN
        ·
          refine XI.op (by kernel_rfl) ?_; refine xk_guardF rfl rfl rfl (by decide) ?_; refine XI.back ?_
          refine XI.op (by kernel_rfl) ?_; refine xk_guardF rfl rfl rfl (by decide) ?_; refine XI.back ?_
          refine XI.op (by kernel_rfl) ?_; refine xk_guardF rfl rfl rfl (by decide) ?_; refine XI.back ?_
          refine XI.op (by kernel_rfl) ?_; refine xk_guardF rfl rfl rfl (by decide) ?_; refine XI.back ?_
          refine XI.op (by kernel_rfl) ?_; refine xk_guardF rfl rfl rfl (by decide) ?_; refine XI.back ?_
          refine XI.op (by kernel_rfl) ?_; (first | refine xk_pickT rfl rfl (by decide) ?_ | refine xk_pickF rfl rfl (by decide) ?_); refine XI.back ?_
          refine XI.op (by kernel_rfl) ?_; refine xk_move rfl (by decide) ?_; refine XI.back ?_
          refine XI.op (by kernel_rfl) ?_; refine xk_guardF rfl rfl rfl (by decide) ?_; refine XI.back ?_
          refine XI.op (by kernel_rfl) ?_; refine xk_guardF rfl rfl rfl (by decide) ?_; refine XI.back ?_
          refine XI.op (by kernel_rfl) ?_; refine xk_guardF rfl rfl rfl (by decide) ?_; refine XI.back ?_
          refine XI.op (by kernel_rfl) ?_; refine xk_guardF rfl rfl rfl (by decide) ?_; refine XI.back ?_
          refine XI.op (by kernel_rfl) ?_; refine xk_guardF rfl rfl rfl (by decide) ?_; refine XI.back ?_
          refine XI.op (by kernel_rfl) ?_; (first | refine xk_pickT rfl rfl (by decide) ?_ | refine xk_pickF rfl rfl (by decide) ?_); refine XI.back ?_
          refine XI.nil ?_
          (repeat (first | refine XC.thenN ?_ | refine XC.thenE ?_ | refine XC.thenR ?_ | refine XC.inN ?_ | refine XC.inE ?_ | refine XC.inR ?_ | refine XC.inF rfl ?_))
          refine XC.cond rfl (fun h => by cases h) (fun _ => ?_)
          refine XC.skip ?_
          (repeat (first | refine XC.thenN ?_ | refine XC.thenE ?_ | refine XC.thenR ?_ | refine XC.inN ?_ | refine XC.inE ?_ | refine XC.inR ?_ | refine XC.inF rfl ?_))
          have hsel : selI evs i = false := by simp only [selI, hev, Option.map_some, Option.getD_some, sel]; simp_all; try (intros; omega)
          have hf2 := filter_skip hik hsel
          refine XK.weak [0, 1, 2] rfl (by decide) (fun _ hp => hp) ?_
          rw [← hf2]
          exact XC.bodyN
    ·
      refine xk_guardF rfl rfl rfl (by decide) ?_
      refine xk_guardF rfl rfl rfl (by decide) ?_
      refine xk_guardF rfl rfl rfl (by decide) ?_
      refine xk_guardF rfl rfl rfl (by decide) ?_
      refine xk_guardF rfl rfl rfl (by decide) ?_
      (first | refine xk_pickT rfl rfl (by decide) ?_ | refine xk_pickF rfl rfl (by decide) ?_)
      refine XC.endW ?_
      (repeat (first | refine XC.thenN ?_ | refine XC.thenE ?_ | refine XC.thenR ?_ | refine XC.inN ?_ | refine XC.inE ?_ | refine XC.inR ?_ | refine XC.inF rfl ?_))
      refine XC.cond rfl (fun h => by cases h) (fun _ => ?_)
      refine XC.skip ?_
      (repeat (first | refine XC.thenN ?_ | refine XC.thenE ?_ | refine XC.thenR ?_ | refine XC.inN ?_ | refine XC.inE ?_ | refine XC.inR ?_ | refine XC.inF rfl ?_))
      refine XC.seq ?_

      refine XC.region ?_
      refine XI.op (by kernel_rfl) ?_; refine xk_move rfl (by decide) ?_; refine XI.back ?_
      refine XI.op (by kernel_rfl) ?_; refine xk_nilC rfl (by decide) ?_; refine XI.back ?_
      refine XI.op (by kernel_rfl) ?_; refine xk_field (off := 1) (by kernel_rfl) rfl (by decide) ?_; refine XI.back ?_
      refine XI.op (by kernel_rfl) ?_; refine xk_load (by kernel_rfl) rfl (Rd.ro (p := p) (by simp) hz (hcs 1 _ rfl)) (by decide) ?_; refine XI.back ?_
      refine XI.op (by kernel_rfl) ?_; refine xk_geq rfl rfl (by decide) ?_; refine XI.back ?_
      refine XI.op (by kernel_rfl) ?_; refine xk_move rfl (by decide) ?_; refine XI.back ?_
      (first | refine xk_split (t := 26) rfl (fun hg => ?_) (fun hg => ?_) | refine xk_splitB (t := 26) rfl (fun hg => ?_) (fun hg => ?_))
      ·
        refine XI.op (by kernel_rfl) ?_; refine xk_guardT rfl rfl ?_; refine xk_move rfl (by decide) ?_; refine XI.back ?_
        refine XI.op (by kernel_rfl) ?_; refine xk_guardT rfl rfl ?_; refine xk_nilC rfl (by decide) ?_; refine XI.back ?_
        refine XI.op (by kernel_rfl) ?_; refine xk_guardT rfl rfl ?_; refine xk_field (off := 1) (by kernel_rfl) rfl (by decide) ?_; refine XI.back ?_
        refine XI.op (by kernel_rfl) ?_; refine xk_guardT rfl rfl ?_; refine xk_load (by kernel_rfl) rfl (Rd.ro (p := p) (by simp) hz (hcs 1 _ rfl)) (by decide) ?_; refine XI.back ?_
        refine XI.op (by kernel_rfl) ?_; refine xk_guardT rfl rfl ?_; refine xk_lss rfl rfl (by decide) ?_; refine XI.back ?_
        refine XI.op (by kernel_rfl) ?_; (first | refine xk_pickT rfl rfl (by decide) ?_ | refine xk_pickF rfl rfl (by decide) ?_); refine XI.back ?_
        refine XI.op (by kernel_rfl) ?_; refine xk_move rfl (by decide) ?_; refine XI.back ?_
        (first | refine xk_split (t := 33) rfl (fun hg => ?_) (fun hg => ?_) | refine xk_splitB (t := 33) rfl (fun hg => ?_) (fun hg => ?_))
        ·
          refine XI.op (by kernel_rfl) ?_; refine xk_guardT rfl rfl ?_; refine xk_load (by kernel_rfl) rfl (Rd.blk 0 rfl rfl) (by decide) ?_; refine XI.back ?_
          refine XI.op (by kernel_rfl) ?_; refine xk_guardT rfl rfl ?_; refine xk_move rfl (by decide) ?_; refine XI.back ?_
          refine XI.op (by kernel_rfl) ?_; refine xk_guardT rfl rfl ?_; refine xk_move rfl (by decide) ?_; refine XI.back ?_
          have hsel : selI evs i = true := by simp only [selI, hev, Option.map_some, Option.getD_some, sel, Bool.and_eq_true, Bool.or_eq_true, beq_iff_eq, decide_eq_true_eq]; simp_all
          obtain ⟨hf1, hf2⟩ := filter_next hik hsel
          refine XI.guardT rfl rfl ?_
          refine XI.yield 1 rfl rfl (by decide) (by simp : nt W F ∈ [q3, p, nt W F, q]) hsm rfl (fun W2 F2 h1 h2 h3 => hY _ [.int .i64 (i : Int), evPtr b off i] W2 F2 (by rw [idEncs, List.getElem?_map, selIds, ← hn, hf1]; rfl) h1 h2 h3) ?_ ?_
          · dsimp only [List.set]
            refine XI.op (by kernel_rfl) ?_; refine xk_guardT rfl rfl ?_; refine xk_not rfl (by decide) ?_; refine XI.back ?_
            refine XI.op (by kernel_rfl) ?_; (first | refine xk_pickT rfl rfl (by decide) ?_ | refine xk_pickF rfl rfl (by decide) ?_); refine XI.back ?_
            refine XI.nil ?_
            (repeat (first | refine XC.thenN ?_ | refine XC.thenE ?_ | refine XC.thenR ?_ | refine XC.inN ?_ | refine XC.inE ?_ | refine XC.inR ?_ | refine XC.inF rfl ?_))
            refine XC.cond rfl (fun h => by cases h) (fun _ => ?_)
            refine XC.skip ?_
            (repeat (first | refine XC.thenN ?_ | refine XC.thenE ?_ | refine XC.thenR ?_ | refine XC.inN ?_ | refine XC.inE ?_ | refine XC.inR ?_ | refine XC.inF rfl ?_))
            rw [← hf2]
            exact XC.bodyN
          · dsimp only [List.set]
            refine XI.op (by kernel_rfl) ?_; refine xk_guardT rfl rfl ?_; refine xk_not rfl (by decide) ?_; refine XI.back ?_
            refine XI.op (by kernel_rfl) ?_; (first | refine xk_pickT rfl rfl (by decide) ?_ | refine xk_pickF rfl rfl (by decide) ?_); refine XI.back ?_
            refine XI.nil ?_
            (repeat (first | refine XC.thenN ?_ | refine XC.thenE ?_ | refine XC.thenR ?_ | refine XC.inN ?_ | refine XC.inE ?_ | refine XC.inR ?_ | refine XC.inF rfl ?_))
            refine XC.cond rfl (fun _ => ?_) (fun h => by cases h)
            refine XC.ret ?_
            (repeat (first | refine XC.thenN ?_ | refine XC.thenE ?_ | refine XC.thenR ?_ | refine XC.inN ?_ | refine XC.inE ?_ | refine XC.inR ?_ | refine XC.inF rfl ?_))
            rw [← hf2]
            refine XK.toEx 1 (f := fun i : Fin (selIds evs).length => Jx (i.1 + 1)) ⟨_, by rw [selIds, ← hn]; exact (List.getElem?_eq_some_iff.1 hf1).1⟩ (by rw [hf2]; rfl) ?_
            dsimp only [List.set]
            exact XC.bodyR
        ·
          refine XI.op (by kernel_rfl) ?_; refine xk_guardF rfl rfl rfl (by decide) ?_; refine XI.back ?_
          refine XI.op (by kernel_rfl) ?_; refine xk_guardF rfl rfl rfl (by decide) ?_; refine XI.back ?_
          refine XI.op (by kernel_rfl) ?_; refine xk_guardF rfl rfl rfl (by decide) ?_; refine XI.back ?_
          refine XI.op (by kernel_rfl) ?_; refine xk_guardF rfl rfl rfl (by decide) ?_; refine XI.back ?_
          refine XI.op (by kernel_rfl) ?_; refine xk_guardF rfl rfl rfl (by decide) ?_; refine XI.back ?_
          refine XI.op (by kernel_rfl) ?_; (first | refine xk_pickT rfl rfl (by decide) ?_ | refine xk_pickF rfl rfl (by decide) ?_); refine XI.back ?_
          refine XI.nil ?_
          (repeat (first | refine XC.thenN ?_ | refine XC.thenE ?_ | refine XC.thenR ?_ | refine XC.inN ?_ | refine XC.inE ?_ | refine XC.inR ?_ | refine XC.inF rfl ?_))
          refine XC.cond rfl (fun h => by cases h) (fun _ => ?_)
          refine XC.skip ?_
          (repeat (first | refine XC.thenN ?_ | refine XC.thenE ?_ | refine XC.thenR ?_ | refine XC.inN ?_ | refine XC.inE ?_ | refine XC.inR ?_ | refine XC.inF rfl ?_))
          have hsel : selI evs i = false := by simp only [selI, hev, Option.map_some, Option.getD_some, sel]; simp_all; try (intros; omega)
          have hf2 := filter_skip hik hsel
          refine XK.weak [0, 1, 2] rfl (by decide) (fun _ hp => hp) ?_
          rw [← hf2]
          exact XC.bodyN
      ·
        refine XI.op (by kernel_rfl) ?_; refine xk_guardF rfl rfl rfl (by decide) ?_; refine XI.back ?_
        refine XI.op (by kernel_rfl) ?_; refine xk_guardF rfl rfl rfl (by decide) ?_; refine XI.back ?_
        refine XI.op (by kernel_rfl) ?_; refine xk_guardF rfl rfl rfl (by decide) ?_; refine XI.back ?_
        refine XI.op (by kernel_rfl) ?_; refine xk_guardF rfl rfl rfl (by decide) ?_; refine XI.back ?_
        refine XI.op (by kernel_rfl) ?_; refine xk_guardF rfl rfl rfl (by decide) ?_; refine XI.back ?_
        refine XI.op (by kernel_rfl) ?_; (first | refine xk_pickT rfl rfl (by decide) ?_ | refine xk_pickF rfl rfl (by decide) ?_); refine XI.back ?_
        refine XI.op (by kernel_rfl) ?_; refine xk_move rfl (by decide) ?_; refine XI.back ?_
        refine XI.op (by kernel_rfl) ?_; refine xk_guardF rfl rfl rfl (by decide) ?_; refine XI.back ?_
        refine XI.op (by kernel_rfl) ?_; refine xk_guardF rfl rfl rfl (by decide) ?_; refine XI.back ?_
        refine XI.op (by kernel_rfl) ?_; refine xk_guardF rfl rfl rfl (by decide) ?_; refine XI.back ?_
        refine XI.op (by kernel_rfl) ?_; refine xk_guardF rfl rfl rfl (by decide) ?_; refine XI.back ?_
        refine XI.op (by kernel_rfl) ?_; refine xk_guardF rfl rfl rfl (by decide) ?_; refine XI.back ?_
        refine XI.op (by kernel_rfl) ?_; (first | refine xk_pickT rfl rfl (by decide) ?_ | refine xk_pickF rfl rfl (by decide) ?_); refine XI.back ?_
        refine XI.nil ?_
        (repeat (first | refine XC.thenN ?_ | refine XC.thenE ?_ | refine XC.thenR ?_ | refine XC.inN ?_ | refine XC.inE ?_ | refine XC.inR ?_ | refine XC.inF rfl ?_))
        refine XC.cond rfl (fun h => by cases h) (fun _ => ?_)
        refine XC.skip ?_
        (repeat (first | refine XC.thenN ?_ | refine XC.thenE ?_ | refine XC.thenR ?_ | refine XC.inN ?_ | refine XC.inE ?_ | refine XC.inR ?_ | refine XC.inF rfl ?_))
        have hsel : selI evs i = false := by simp only [selI, hev, Option.map_some, Option.getD_some, sel]; simp_all; try (intros; omega)
        have hf2 := filter_skip hik hsel
        refine XK.weak [0, 1, 2] rfl (by decide) (fun _ hp => hp) ?_
        rw [← hf2]
        exact XC.bodyN
  rotate_left
  ·
    intro D k hk
    dsimp only [List.cons_append, List.nil_append]
    refine XC.ret ?_
    (repeat (first | refine XC.thenN ?_ | refine XC.thenE ?_ | refine XC.thenR ?_ | refine XC.inN ?_ | refine XC.inE ?_ | refine XC.inR ?_ | refine XC.inF rfl ?_))
    refine XK.openEx 1 rfl fun i => ?_
    dsimp only [List.set]
    refine XC.ret0 (Hs := [HP.blk g2 137 [.func (.yield l) #[] #[]], Jx (i.1 + 1)]) (.inl rfl) rfl fun w1 st => ?_
    obtain ⟨F', h1, h2⟩ := st.turns hF (by simp [nt]) (i := 1) rfl
    exact ⟨⟨_, rfl⟩, F', h2, .inr ⟨i.1, by simpa [idEncs] using i.2, h1⟩⟩
  intro D
  dsimp only [List.cons_append, List.nil_append]
  (repeat (first | refine XC.thenN ?_ | refine XC.thenE ?_ | refine XC.thenR ?_ | refine XC.inN ?_ | refine XC.inE ?_ | refine XC.inR ?_ | refine XC.inF rfl ?_))
  refine XC.ret0 (Hs := [HP.blk g2 137 [.func (.yield l) #[] #[]], J (((List.range n).take (idEncs b off (List.range n)).length).filter (selI evs)).length]) (.inr rfl) rfl fun w1 st => ?_
  obtain ⟨F', h1, h2⟩ := st.turns hF (by simp [nt]) (i := 1) rfl
  rw [List.take_of_length_le (by simp [idEncs])] at h1
  exact ⟨⟨_, rfl⟩, F', h2, .inl (by simpa [idEncs, selIds, ← hn] using h1)⟩

end Go.Proofs.Ytbgibbbggajgaaa
