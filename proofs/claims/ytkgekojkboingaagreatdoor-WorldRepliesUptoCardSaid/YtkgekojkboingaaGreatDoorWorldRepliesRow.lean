/- WorldReplies: for every input that holds together at most 1048576 values and letters the law returns true, and changes nothing that was there. No other condition. -/
import Derived.Test.YtkgekojkboingaaGreatDoorWorldRepliesK8
import Derived.Test.YtkgekojkboingaaGreatDoorCards
import Derived.Test.YtkgekojkboingaaGreatDoorTie
import Derived.Deep.DeepHandedRow
import Derived.Lib.LaidTab
import Derived.SevenTiedAt
import Derived.ChangeMaps5
import Derived.Lib.LaidU8
namespace Go.Proofs.YtkgekojkboingaaGreatDoor.worldReplies
set_option linter.all false
set_option maxHeartbeats 4000000
set_option maxRecDepth 20000
open Go.ChangeShapes Go.ChangeMaps Go.WideShapes Go.ChangeAt Go.RowKit Go.Proofs.Tryz

theorem own : ownKnob Tryz.prog.godebug = none := by kernel_rfl
theorem laidOut : laidOutB Tryz.prog = true := by kernel_rfl
theorem aA5 {W : World} {g o : Nat} {v : Value} (hM0 : W.cell? ⟨g, o, none⟩ = some v) : g < W.heap.size := by
  rcases Nat.lt_or_ge g W.heap.size with h | h
  · exact h
  · have h2 : W.cell? ⟨g, o, none⟩ = none := by simp [World.cell?, Array.getElem?_eq_none h]
    cases h2.symm.trans hM0
theorem aSy {a : Int} (h : (Lit.int .u64 a).wf = true) : 0 ≤ a ∧ a < 18446744073709551616 := by
  simp [Lit.wf, IntKind.min, IntKind.max, IntKind.signed, IntKind.bits] at h
  omega
theorem aQl : Tryz.prog.cellsOf 3 = 1 := by kernel_rfl
theorem params : ∀ t ∈ Tryz.f3.params.toList, Tryz.prog.readableRec t = true ∧ t < Tryz.prog.types.size := by
  have aCE : Tryz.prog.readableRec 22 = true ∧ 22 < Tryz.prog.types.size := ⟨by kernel_rfl, of_decide_eq_true (by kernel_rfl)⟩
  have aCF : Tryz.prog.readableRec 23 = true ∧ 23 < Tryz.prog.types.size := ⟨by kernel_rfl, of_decide_eq_true (by kernel_rfl)⟩
  rw [Tryz.params3]
  intro t ht
  simp at ht
  rcases ht with rfl | rfl
  · exact aCE
  · exact aCF
theorem Vo : Tryz.prog.globalNamed "catnap/quiet.letters" = some 0 := by kernel_rfl
theorem aNS : (Tryz.prog.globals[0]?).map (·.type) = some 325 := by kernel_rfl
theorem aQn : Tryz.prog.cellsOf 325 = 4 := by kernel_rfl
theorem aQm : Tryz.prog.cellsOf 5 = 1 := by kernel_rfl
theorem table {W : World} (h : laidMetH Tryz.prog Rows.worldRepliesUptoRow.laid W) : Lib.TabIs Tryz.prog W "catnap/quiet.letters" .u8 [114, 97, 115, 100] :=
  Lib.tabIs_of_head (rest := []) Vo aNS Tryz.underlying325 Tryz.underlying5 aQm aQn h
theorem aMG {W : World} (h : laidMetH Tryz.prog Rows.worldRepliesUptoRow.laid W) : eS (all W) := by
  have t := table h
  have c0 := t.cell Vo 0 (by decide)
  have c1 := t.cell Vo 1 (by decide)
  have c2 := t.cell Vo 2 (by decide)
  have c3 := t.cell Vo 3 (by decide)
  intro i v hv
  have hi : i = 0 ∨ i = 1 ∨ i = 2 ∨ i = 3 := by
    have h4 := (List.getElem?_eq_some_iff.1 hv).1
    simp at h4
    omega
  rcases hi with rfl | rfl | rfl | rfl
  · simp at hv
    subst hv
    exact ⟨aA5 c0, c0⟩
  · simp at hv
    subst hv
    exact ⟨aA5 c0, c1⟩
  · simp at hv
    subst hv
    exact ⟨aA5 c0, c2⟩
  · simp at hv
    subst hv
    exact ⟨aA5 c0, c3⟩

set_option maxRecDepth 100000 in
theorem contract (H : Type) (enc : TypeId × Value → H) (W : World) (base : Nat) (args : Array Value) (ds gs : List (DataW H)) (before : List MemPlace)
    (hval : ∀ (j : Nat) t v, Tryz.f3.params[j]? = some t → args[j]? = some v → Value.okWide Tryz.prog W .any base t v)
    (hW : DataW.Whole enc Tryz.prog Tryz.f3.params.toList Rows.worldRepliesSpec.vars false W args.toList ds gs before) (hL : laidMetH Tryz.prog Rows.worldRepliesUptoRow.laid W) (hSh : W.ShapedOpen Tryz.prog) (hk : Rows.uptoSmall H (ds ++ gs) = true) :
    Calls Tryz.prog 3 args W fun e W' => ∃ v, e = .returned v ∧ Rows.worldRepliesSpec.post enc Tryz.prog Tryz.f3 false true false false W args v W' := by
  have Vl := hW
  obtain ⟨p, q, hA, hV, rfl, hfz, hnd⟩ := hW
  have hpp := Tryz.params3
  rw [hpp] at hA hval
  obtain ⟨v0, vs0, d0, ds0, p0, q0, hargs, rfl, rfl, h0, r0⟩ := trodAll_cons hA
  obtain ⟨v1, vs1, d1, ds1, p1, q1, rfl, rfl, rfl, h1, r1⟩ := trodAll_cons r0
  obtain ⟨rfl, rfl, rfl⟩ := trodAll_nil r1
  obtain rfl : args = #[v0, v1] := by cases args; simp_all
  obtain ⟨A0, n0, c0, zs0, rfl, hs0, nP, hn0, hm0⟩ := aLH Tryz.underlying22 Tryz.underlying3 aQl (hval 0 22 v0 rfl rfl) h0
  obtain ⟨A1, n1, c1, ac1, rfl, hs1, ho1, lM, hm1⟩ := aLI (hval 1 23 v1 rfl rfl) h1
  have sN : n1 ≤ 2000000 := Nat.le_trans (aQ0 hk (List.mem_append_left _ (by simp)) (aQw Tryz.underlying23 h1)) (by decide)
  refine (aIZ A0 n0 c0 zs0 A1 n1 c1 ac1 W (aIc hs0) nP hn0 hm0 (aIc hs1) ho1 lM sN (aMG hL)).mono fun e W' ⟨he, hg⟩ => ?_
  exact ⟨_, he, aLx laidOut params (by kernel_rfl) Tryz.underlying4 rfl Vl rfl hg⟩

def aJC : Array Value := #[.int .u8 114, .int .u8 97, .int .u8 115, .int .u8 100]
/-- A WORLD FOR THE WITNESS: the settled one, the tables holding what their initialisers lay. -/
noncomputable def aCk (os : Os) : World :=
  { World.holding Tryz.prog os ⟨#[], #[], []⟩ with heap := ((World.holding Tryz.prog os ⟨#[], #[], []⟩).heap).modify 0 fun | .cells _ t frozen => .cells aJC t frozen | o => o }
set_option maxRecDepth 100000 in
theorem aMH (os : Os) : laidMet Tryz.prog Rows.worldRepliesUptoRow.laid ((aCk os).forCall (fun _ _ => 0) ⟨#[], #[.slice none 0 0, .slice none 0 0], []⟩).memory :=
  laidMet_of_run' 8 (by kernel_rfl) (by kernel_rfl)
theorem reads (os : Os) {H : Type} (enc : TypeId × Value → H) : ∃ places, DataW.whole enc Tryz.prog ((aCk os).forCall (fun _ _ => 0) ⟨#[], #[.slice none 0 0, .slice none 0 0], []⟩).memory Tryz.f3.params.toList Rows.worldRepliesSpec.vars false #[.slice none 0 0, .slice none 0 0].toList 8 = some ([.nil, .nil], [], places) :=
  ⟨[], by kernel_rfl⟩

set_option maxRecDepth 100000 in
theorem lifted (os : Os) (started : os.Started) (H : Type) (enc : TypeId × Value → H) (F : Stop.Interp) :
    ReturnsInHanded {} Tryz.checked os 3 .any ((Rows.OpenSpec.upto Rows.worldRepliesSpec).preRow enc Tryz.prog Tryz.f3 Rows.worldRepliesUptoRow.domain false Rows.worldRepliesUptoRow.laid) (((Rows.OpenSpec.upto Rows.worldRepliesSpec).at F).post enc Tryz.prog Tryz.f3 false true false false) := by
  obtain ⟨places, hx⟩ := reads os enc
  refine returnsInHanded_of_row (C := Tryz.checked) (s := Rows.OpenSpec.upto Rows.worldRepliesSpec) own started (by kernel_rfl) func3
    (witness_row_at (enc := enc) (C := Tryz.checked) false (aCk os) #[.slice none 0 0, .slice none 0 0] rfl (by kernel_rfl) (by kernel_rfl) (by kernel_rfl)
      (OpenSpec.preRow_of_cond 8 hx (by kernel_rfl) (fun k hk => by cases hk; kernel_rfl) (by kernel_rfl) (aMH os))) ?_
  intro W base args ds gs before hval hW _ aN6 _ hL hSh _
  exact contract H enc W base args ds gs before hval hW hL hSh (aN6 _ rfl)

theorem kI {a b : Bool} (h : a = true) (k : b = true) : (a && b) = true := by rw [h, k]; rfl
theorem aOw : (Rows.worldRepliesUptoRow.inPlace == Tryz.pinned.checked.prog.inPlace 3) = true := by kernel_rfl
theorem aOt : (Rows.worldRepliesUptoRow.unfollowed == Tryz.pinned.checked.prog.unfollowed 3) = true := by kernel_rfl
theorem aOu : (Rows.worldRepliesUptoRow.recurses == Tryz.pinned.checked.prog.recurses 3) = true := by kernel_rfl
theorem aOv : (Rows.worldRepliesUptoRow.named == Tryz.pinned.checked.prog.varsNamed 3) = true := by kernel_rfl
theorem closed : joinedFacts Tryz.pinned.checked.prog 3 Tryz.f3 (Rows.OpenSpec.upto Rows.worldRepliesSpec).bare Rows.worldRepliesUptoRow = true := (kI (kI (kI (kI (kI (kI (kI (kI (kI (kI (kI (kI (kI (kI (kI (kI (kI (kI (kI (kI (kI (kI (kI (kI (kI (kI (kI (kI (kI (kI (kI (by kernel_rfl) (by kernel_rfl)) (by kernel_rfl)) (by kernel_rfl)) (by kernel_rfl)) (by kernel_rfl)) (by kernel_rfl)) (by kernel_rfl)) (by kernel_rfl)) aOw) aOt) aOu) aOv) (by kernel_rfl)) (by kernel_rfl)) (by kernel_rfl)) (by kernel_rfl)) (by kernel_rfl)) (by kernel_rfl)) (by kernel_rfl)) (by kernel_rfl)) (by kernel_rfl)) (by kernel_rfl)) (by kernel_rfl)) (by kernel_rfl)) (by kernel_rfl)) (by kernel_rfl)) (by kernel_rfl)) (by kernel_rfl)) (by kernel_rfl)) (by kernel_rfl)) (by kernel_rfl))
theorem said : Rows.WorldRepliesUptoSaid :=
  OpenClaim.holds_of_cond 3 Tryz.f3 rfl rfl rfl rfl rfl rfl rfl ⟨rfl, rfl, rfl, rfl, rfl⟩ rfl rfl rfl rfl rfl (by kernel_rfl) func3 closed
    (of_decide_eq_true (by kernel_rfl)) (by unfold Func.isWrapper; first | (rw [if_pos (by decide +kernel)]; kernel_rfl) | (rw [if_neg (by decide +kernel)]; exact ⟨rfl, rfl⟩))
    (fun os started H enc _ F => by rw [OpenClaim.pre_eq_preRow]; exact lifted os started H enc F)

/-- No parameter wants a stand-in; the program's own looks are off: what the card asks. -/
theorem plain (f : FuncId) (fn : Func) (hf : Tryz.pinned.checked.prog.funcNamed "catnap/catnaplaw19.WorldReplies" = some f) (hfn : Tryz.pinned.checked.prog.funcs[f]? = some fn) :
    false = Tryz.pinned.checked.prog.looks [] ∧ ∀ (j : Nat) t, fn.params[j]? = some t → Tryz.pinned.checked.prog.wantsStandIn t = false := by
  obtain rfl : f = 3 := Option.some.inj ((show Tryz.prog.funcNamed "catnap/catnaplaw19.WorldReplies" = some 3 by kernel_rfl).symm.trans hf) |>.symm
  obtain rfl : fn = Tryz.f3 := (Option.some.inj (func3.symm.trans hfn)).symm
  refine ⟨by kernel_rfl, fun j t ht => ?_⟩

  have aCE : Tryz.prog.wantsStandIn 22 = false := by kernel_rfl
  have aCF : Tryz.prog.wantsStandIn 23 = false := by kernel_rfl
  rw [Tryz.params3] at ht
  have hm := Array.mem_of_getElem? ht
  simp at hm
  rcases hm with rfl | rfl
  · exact aCE
  · exact aCF

/-- THE CARD -/
theorem card : Rows.WorldRepliesUptoCardSaid :=
  Claim7.holds_tied_plain_at .later [] _ _ _ _ said (fun _ h => by cases h) (by kernel_rfl) (fun _ h => by cases h) worldRepliesUpto_row_tie rfl ⟨rfl, rfl⟩ (by kernel_rfl) rfl plain (by kernel_rfl)
#print axioms card
end Go.Proofs.YtkgekojkboingaaGreatDoor.worldReplies
