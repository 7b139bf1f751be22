/- FirmWakes: for every input the law returns true, and changes nothing that was there. No condition of ours. -/
import Derived.Test.YticjkhagldkejaaGreatDoorFirmWakesK7
import Derived.Test.YticjkhagldkejaaGreatDoorCards
import Derived.Test.YticjkhagldkejaaGreatDoorTie
import Derived.Deep.DeepHandedRow
import Derived.Lib.LaidTab
import Derived.SevenTiedAt
import Derived.ChangeMaps5
import Derived.Lib.LaidU8
namespace Go.Proofs.YticjkhagldkejaaGreatDoor.firmWakes
set_option linter.all false
open Go.ChangeShapes Go.ChangeMaps Go.WideShapes Go.ChangeAt Go.RowKit

theorem own : ownKnob Tryz.prog.godebug = none := by kernel_rfl
theorem laidOut : laidOutB Tryz.prog = true := by kernel_rfl
theorem cell_lt {W : World} {g o : Nat} {v : Value} (hM0 : W.cell? ⟨g, o, none⟩ = some v) : g < W.heap.size := by
  rcases Nat.lt_or_ge g W.heap.size with h | h
  · exact h
  · have h2 : W.cell? ⟨g, o, none⟩ = none := by simp [World.cell?, Array.getElem?_eq_none h]
    cases h2.symm.trans hM0
theorem boundsU {a : Int} (h : (Lit.int .u64 a).wf = true) : 0 ≤ a ∧ a < 18446744073709551616 := by
  simp [Lit.wf, IntKind.min, IntKind.max, IntKind.signed, IntKind.bits] at h
  omega
theorem cellsI : Tryz.prog.cellsOf 3 = 1 := by kernel_rfl
theorem params : ∀ t ∈ Tryz.f5.params.toList, Tryz.prog.readableRec t = true ∧ t < Tryz.prog.types.size := by
  have h_ints : Tryz.prog.readableRec 22 = true ∧ 22 < Tryz.prog.types.size := ⟨by kernel_rfl, of_decide_eq_true (by kernel_rfl)⟩
  have h_int : Tryz.prog.readableRec 3 = true ∧ 3 < Tryz.prog.types.size := ⟨by kernel_rfl, of_decide_eq_true (by kernel_rfl)⟩
  rw [Tryz.params5]
  intro t ht
  simp at ht
  rcases ht with rfl | rfl
  · exact h_ints
  · exact h_int
theorem gTab : Tryz.prog.globalNamed "catnap/quiet.letters" = some 0 := by kernel_rfl
theorem gTabType : (Tryz.prog.globals[0]?).map (·.type) = some 270 := by kernel_rfl
theorem cellsA : Tryz.prog.cellsOf 270 = 4 := by kernel_rfl
theorem cellsB : Tryz.prog.cellsOf 5 = 1 := by kernel_rfl
theorem table {W : World} (h : laidMetH Tryz.prog Rows.firmWakesRow.laid W) : Lib.TabIs Tryz.prog W "catnap/quiet.letters" .u8 [114, 97, 115, 100] :=
  Lib.tabIs_of_head (rest := []) gTab gTabType Tryz.underlying270 Tryz.underlying5 cellsB cellsA h
theorem letters_of {W : World} (h : laidMetH Tryz.prog Rows.firmWakesRow.laid W) : LetP (all W) := by
  have t := table h
  have c0 := t.cell gTab 0 (by decide)
  have c1 := t.cell gTab 1 (by decide)
  have c2 := t.cell gTab 2 (by decide)
  have c3 := t.cell gTab 3 (by decide)
  intro i v hv
  have hi : i = 0 ∨ i = 1 ∨ i = 2 ∨ i = 3 := by
    have h4 := (List.getElem?_eq_some_iff.1 hv).1
    simp at h4
    omega
  rcases hi with rfl | rfl | rfl | rfl
  · simp at hv
    subst hv
    exact ⟨cell_lt c0, c0⟩
  · simp at hv
    subst hv
    exact ⟨cell_lt c0, c1⟩
  · simp at hv
    subst hv
    exact ⟨cell_lt c0, c2⟩
  · simp at hv
    subst hv
    exact ⟨cell_lt c0, c3⟩

set_option maxRecDepth 100000 in
theorem contract (H : Type) (enc : TypeId × Value → H) (W : World) (base : Nat) (args : Array Value) (ds gs : List (DataW H)) (before : List MemPlace)
    (hval : ∀ (j : Nat) t v, Tryz.f5.params[j]? = some t → args[j]? = some v → Value.okWide Tryz.prog W .any base t v)
    (hW : DataW.Whole enc Tryz.prog Tryz.f5.params.toList Rows.firmWakesSpec.vars false W args.toList ds gs before) (hL : laidMetH Tryz.prog Rows.firmWakesRow.laid W) (hSh : W.ShapedOpen Tryz.prog) :
    Calls Tryz.prog 5 args W fun e W' => ∃ v, e = .returned v ∧ Rows.firmWakesSpec.post enc Tryz.prog Tryz.f5 false true false false W args v W' := by
  have hW' := hW
  obtain ⟨p, q, hA, hV, rfl, hfz, hnd⟩ := hW
  have hpp := Tryz.params5
  rw [hpp] at hA hval
  obtain ⟨v0, vs0, d0, ds0, p0, q0, hargs, rfl, rfl, h0, r0⟩ := trodAll_cons hA
  obtain ⟨v1, vs1, d1, ds1, p1, q1, rfl, rfl, rfl, h1, r1⟩ := trodAll_cons r0
  obtain ⟨rfl, rfl, rfl⟩ := trodAll_nil r1
  obtain rfl : args = #[v0, v1] := by cases args; simp_all
  obtain ⟨A0, n0, c0, zs0, rfl, hs0, hi0, hn0, hm0⟩ := open_ints_row Tryz.underlying22 Tryz.underlying3 cellsI (hval 0 22 v0 rfl rfl) h0
  obtain ⟨a1, rfl, rfl, rfl, w1⟩ := open_int Tryz.underlying3 (hval 1 3 v1 rfl rfl) h1
  refine (fwakes_any A0 n0 c0 zs0 a1 W (SlS.of_sl hs0) hi0 hn0 hm0 (bounds64 w1) (letters_of hL)).mono fun e W' ⟨he, hg⟩ => ?_
  exact ⟨_, he, post_true laidOut params (by kernel_rfl) Tryz.underlying4 rfl hW' rfl hg⟩

def tab_catnap_quiet_letters : Array Value := #[.int .u8 114, .int .u8 97, .int .u8 115, .int .u8 100]
/-- A WORLD FOR THE WITNESS: the settled one, the tables holding what their initialisers lay. -/
noncomputable def laidWorld (os : Os) : World :=
  { World.holding Tryz.prog os ⟨#[], #[], []⟩ with heap := ((World.holding Tryz.prog os ⟨#[], #[], []⟩).heap).modify 0 fun | .cells _ t frozen => .cells tab_catnap_quiet_letters t frozen | o => o }
set_option maxRecDepth 100000 in
theorem laid_met (os : Os) : laidMet Tryz.prog Rows.firmWakesRow.laid ((laidWorld os).forCall (fun _ _ => 0) ⟨#[], #[.slice none 0 0, .int .i64 0], []⟩).memory :=
  laidMet_of_run' 8 (by kernel_rfl) (by kernel_rfl)
theorem reads (os : Os) {H : Type} (enc : TypeId × Value → H) : ∃ places, DataW.whole enc Tryz.prog ((laidWorld os).forCall (fun _ _ => 0) ⟨#[], #[.slice none 0 0, .int .i64 0], []⟩).memory Tryz.f5.params.toList Rows.firmWakesSpec.vars false #[.slice none 0 0, .int .i64 0].toList 8 = some ([.nil, .lit (.int .i64 0)], [], places) :=
  ⟨[], by kernel_rfl⟩

set_option maxRecDepth 100000 in
theorem lifted (os : Os) (started : os.Started) (H : Type) (enc : TypeId × Value → H) (F : Stop.Interp) :
    ReturnsInHanded {} Tryz.checked os 5 .any ((OpenSpec.ofChange Rows.firmWakesSpec).preRow enc Tryz.prog Tryz.f5 Rows.firmWakesRow.domain false Rows.firmWakesRow.laid) (((OpenSpec.ofChange Rows.firmWakesSpec).at F).post enc Tryz.prog Tryz.f5 false true false false) := by
  obtain ⟨places, hx⟩ := reads os enc
  refine returnsInHanded_of_row (C := Tryz.checked) (s := OpenSpec.ofChange Rows.firmWakesSpec) own started (by kernel_rfl) Tryz.func5
    (witness_row_at (enc := enc) (C := Tryz.checked) false (laidWorld os) #[.slice none 0 0, .int .i64 0] rfl (by kernel_rfl) (by kernel_rfl) (by kernel_rfl)
      (OpenSpec.preRow_of_cond 8 hx (by kernel_rfl) (fun k hk => by cases hk) (by kernel_rfl) (laid_met os))) ?_
  intro W base args ds gs before hval hW _ _ _ hL hSh _
  exact contract H enc W base args ds gs before hval hW hL hSh

theorem and_t {a b : Bool} (h : a = true) (k : b = true) : (a && b) = true := by rw [h, k]; rfl
theorem fact_inPlace : (Rows.firmWakesRow.inPlace == Tryz.pinned.checked.prog.inPlace 5) = true := by kernel_rfl
theorem fact_unfollowed : (Rows.firmWakesRow.unfollowed == Tryz.pinned.checked.prog.unfollowed 5) = true := by kernel_rfl
theorem fact_recurses : (Rows.firmWakesRow.recurses == Tryz.pinned.checked.prog.recurses 5) = true := by kernel_rfl
theorem fact_named : (Rows.firmWakesRow.named == Tryz.pinned.checked.prog.varsNamed 5) = true := by kernel_rfl
theorem closed : joinedFacts Tryz.pinned.checked.prog 5 Tryz.f5 (OpenSpec.ofChange Rows.firmWakesSpec).bare Rows.firmWakesRow = true := (and_t (and_t (and_t (and_t (and_t (and_t (and_t (and_t (and_t (and_t (and_t (and_t (and_t (and_t (and_t (and_t (and_t (and_t (and_t (and_t (and_t (and_t (and_t (and_t (and_t (and_t (and_t (and_t (and_t (and_t (and_t (by kernel_rfl) (by kernel_rfl)) (by kernel_rfl)) (by kernel_rfl)) (by kernel_rfl)) (by kernel_rfl)) (by kernel_rfl)) (by kernel_rfl)) (by kernel_rfl)) fact_inPlace) fact_unfollowed) fact_recurses) fact_named) (by kernel_rfl)) (by kernel_rfl)) (by kernel_rfl)) (by kernel_rfl)) (by kernel_rfl)) (by kernel_rfl)) (by kernel_rfl)) (by kernel_rfl)) (by kernel_rfl)) (by kernel_rfl)) (by kernel_rfl)) (by kernel_rfl)) (by kernel_rfl)) (by kernel_rfl)) (by kernel_rfl)) (by kernel_rfl)) (by kernel_rfl)) (by kernel_rfl)) (by kernel_rfl))
theorem said : Rows.FirmWakesSaid :=
  OpenClaim.holds_of_cond 5 Tryz.f5 rfl rfl rfl rfl rfl rfl rfl ⟨rfl, rfl, rfl, rfl, rfl⟩ rfl rfl rfl rfl rfl (by kernel_rfl) Tryz.func5 closed
    (of_decide_eq_true (by kernel_rfl)) (by unfold Func.isWrapper; first | (rw [if_pos (by decide +kernel)]; kernel_rfl) | (rw [if_neg (by decide +kernel)]; exact ⟨rfl, rfl⟩))
    (fun os started H enc _ F => by rw [OpenClaim.pre_eq_preRow]; exact lifted os started H enc F)

/-- No parameter wants a stand-in; the program's own looks are off: what the card asks. -/
theorem plain (f : FuncId) (fn : Func) (hf : Tryz.pinned.checked.prog.funcNamed "catnap/catnaplaw15.FirmWakes" = some f) (hfn : Tryz.pinned.checked.prog.funcs[f]? = some fn) :
    true = Tryz.pinned.checked.prog.looks [] ∧ ∀ (j : Nat) t, fn.params[j]? = some t → Tryz.pinned.checked.prog.wantsStandIn t = false := by
  obtain rfl : f = 5 := Option.some.inj ((show Tryz.prog.funcNamed "catnap/catnaplaw15.FirmWakes" = some 5 by kernel_rfl).symm.trans hf) |>.symm
  obtain rfl : fn = Tryz.f5 := (Option.some.inj (Tryz.func5.symm.trans hfn)).symm
  refine ⟨by kernel_rfl, fun j t ht => ?_⟩

  have h_ints : Tryz.prog.wantsStandIn 22 = false := by kernel_rfl
  have h_int : Tryz.prog.wantsStandIn 3 = false := by kernel_rfl
  rw [Tryz.params5] at ht
  have hm := Array.mem_of_getElem? ht
  simp at hm
  rcases hm with rfl | rfl
  · exact h_ints
  · exact h_int

/-- THE CARD -/
theorem card : Rows.FirmWakesCardSaid :=
  Claim7.holds_tied_plain_at .later [] _ _ _ _ said (fun _ h => by cases h) (by kernel_rfl) (fun _ h => by cases h) firmWakes_row_tie rfl ⟨rfl, rfl⟩ (by kernel_rfl) rfl plain (by kernel_rfl)
#print axioms card
end Go.Proofs.YticjkhagldkejaaGreatDoor.firmWakes
