/- WorldNests: for every input that holds together at most 1048576 values and letters the law returns true, and changes nothing that was there. No other condition. -/
import Derived.Test.YtkgekojkboingaaGreatDoorWorldNestsK8
import Derived.Test.YtkgekojkboingaaGreatDoorCards
import Derived.Test.YtkgekojkboingaaGreatDoorTie
import Derived.Deep.DeepHandedRow
import Derived.Lib.LaidTab
import Derived.SevenTiedAt
import Derived.ChangeMaps5
import Derived.Lib.LaidU8
namespace Go.Proofs.YtkgekojkboingaaGreatDoor.worldNests
set_option linter.all false
set_option maxHeartbeats 4000000
set_option maxRecDepth 20000
open Go.ChangeShapes Go.ChangeMaps Go.WideShapes Go.ChangeAt Go.RowKit Go.Proofs.Tryz

theorem own : ownKnob Tryz.prog.godebug = none := by kernel_rfl
theorem laidOut : laidOutB Tryz.prog = true := by kernel_rfl
theorem aAK {W : World} {g o : Nat} {v : Value} (hM0 : W.cell? ⟨g, o, none⟩ = some v) : g < W.heap.size := by
  rcases Nat.lt_or_ge g W.heap.size with h | h
  · exact h
  · have h2 : W.cell? ⟨g, o, none⟩ = none := by simp [World.cell?, Array.getElem?_eq_none h]
    cases h2.symm.trans hM0
theorem aSS {a : Int} (h : (Lit.int .u64 a).wf = true) : 0 ≤ a ∧ a < 18446744073709551616 := by
  simp [Lit.wf, IntKind.min, IntKind.max, IntKind.signed, IntKind.bits] at h
  omega
theorem aQE : Tryz.prog.cellsOf 3 = 1 := by kernel_rfl
theorem params : ∀ t ∈ Tryz.f4.params.toList, Tryz.prog.readableRec t = true ∧ t < Tryz.prog.types.size := by
  have aCU : Tryz.prog.readableRec 22 = true ∧ 22 < Tryz.prog.types.size := ⟨by kernel_rfl, of_decide_eq_true (by kernel_rfl)⟩
  have aCV : Tryz.prog.readableRec 23 = true ∧ 23 < Tryz.prog.types.size := ⟨by kernel_rfl, of_decide_eq_true (by kernel_rfl)⟩
  rw [Tryz.params4]
  intro t ht
  simp at ht
  rcases ht with rfl | rfl
  · exact aCU
  · exact aCV
theorem Wa : Tryz.prog.globalNamed "catnap/quiet.letters" = some 0 := by kernel_rfl
theorem aOr : (Tryz.prog.globals[0]?).map (·.type) = some 325 := by kernel_rfl
theorem aQG : Tryz.prog.cellsOf 325 = 4 := by kernel_rfl
theorem aQF : Tryz.prog.cellsOf 5 = 1 := by kernel_rfl
theorem table {W : World} (h : laidMetH Tryz.prog Rows.worldNestsUptoRow.laid W) : Lib.TabIs Tryz.prog W "catnap/quiet.letters" .u8 [114, 97, 115, 100] :=
  Lib.tabIs_of_head (rest := []) Wa aOr Tryz.underlying325 Tryz.underlying5 aQF aQG h
theorem aNd {W : World} (h : laidMetH Tryz.prog Rows.worldNestsUptoRow.laid W) : eS (all W) := by
  have t := table h
  have c0 := t.cell Wa 0 (by decide)
  have c1 := t.cell Wa 1 (by decide)
  have c2 := t.cell Wa 2 (by decide)
  have c3 := t.cell Wa 3 (by decide)
  intro i v hv
  have hi : i = 0 ∨ i = 1 ∨ i = 2 ∨ i = 3 := by
    have h4 := (List.getElem?_eq_some_iff.1 hv).1
    simp at h4
    omega
  rcases hi with rfl | rfl | rfl | rfl
  · simp at hv
    subst hv
    exact ⟨aAK c0, c0⟩
  · simp at hv
    subst hv
    exact ⟨aAK c0, c1⟩
  · simp at hv
    subst hv
    exact ⟨aAK c0, c2⟩
  · simp at hv
    subst hv
    exact ⟨aAK c0, c3⟩

set_option maxRecDepth 100000 in
theorem contract (H : Type) (enc : TypeId × Value → H) (W : World) (base : Nat) (args : Array Value) (ds gs : List (DataW H)) (before : List MemPlace)
    (hval : ∀ (j : Nat) t v, Tryz.f4.params[j]? = some t → args[j]? = some v → Value.okWide Tryz.prog W .any base t v)
    (hW : DataW.Whole enc Tryz.prog Tryz.f4.params.toList Rows.worldNestsSpec.vars false W args.toList ds gs before) (hL : laidMetH Tryz.prog Rows.worldNestsUptoRow.laid W) (hSh : W.ShapedOpen Tryz.prog) (hk : Rows.uptoSmall H (ds ++ gs) = true) :
    Calls Tryz.prog 4 args W fun e W' => ∃ v, e = .returned v ∧ Rows.worldNestsSpec.post enc Tryz.prog Tryz.f4 false true false false W args v W' := by
  have Vx := hW
  obtain ⟨p, q, hA, hV, rfl, hfz, hnd⟩ := hW
  have hpp := Tryz.params4
  rw [hpp] at hA hval
  obtain ⟨v0, vs0, d0, ds0, p0, q0, hargs, rfl, rfl, h0, r0⟩ := trodAll_cons hA
  obtain ⟨v1, vs1, d1, ds1, p1, q1, rfl, rfl, rfl, h1, r1⟩ := trodAll_cons r0
  obtain ⟨rfl, rfl, rfl⟩ := trodAll_nil r1
  obtain rfl : args = #[v0, v1] := by cases args; simp_all
  obtain ⟨A0, n0, c0, zs0, rfl, hs0, nT, hn0, hm0⟩ := aMe Tryz.underlying22 Tryz.underlying3 aQE (hval 0 22 v0 rfl rfl) h0
  obtain ⟨A1, n1, c1, ac1, rfl, hs1, ho1, qK, hm1⟩ := aMf (hval 1 23 v1 rfl rfl) h1
  have Bk : n1 ≤ 2000000 := Nat.le_trans (aQT hk (List.mem_append_left _ (by simp)) (aQP Tryz.underlying23 h1)) (by decide)
  refine (aJw A0 n0 c0 zs0 A1 n1 c1 ac1 W (aIz hs0) nT hn0 hm0 (aIz hs1) ho1 qK Bk (aNd hL)).mono fun e W' ⟨he, hg⟩ => ?_
  exact ⟨_, he, aLJ laidOut params (by kernel_rfl) Tryz.underlying4 rfl Vx rfl hg⟩

def aJY : Array Value := #[.int .u8 114, .int .u8 97, .int .u8 115, .int .u8 100]
/-- A WORLD FOR THE WITNESS: the settled one, the tables holding what their initialisers lay. -/
noncomputable def aC1 (os : Os) : World :=
  { World.holding Tryz.prog os ⟨#[], #[], []⟩ with heap := ((World.holding Tryz.prog os ⟨#[], #[], []⟩).heap).modify 0 fun | .cells _ t frozen => .cells aJY t frozen | o => o }
set_option maxRecDepth 100000 in
theorem aNe (os : Os) : laidMet Tryz.prog Rows.worldNestsUptoRow.laid ((aC1 os).forCall (fun _ _ => 0) ⟨#[], #[.slice none 0 0, .slice none 0 0], []⟩).memory :=
  laidMet_of_run' 8 (by kernel_rfl) (by kernel_rfl)
theorem reads (os : Os) {H : Type} (enc : TypeId × Value → H) : ∃ places, DataW.whole enc Tryz.prog ((aC1 os).forCall (fun _ _ => 0) ⟨#[], #[.slice none 0 0, .slice none 0 0], []⟩).memory Tryz.f4.params.toList Rows.worldNestsSpec.vars false #[.slice none 0 0, .slice none 0 0].toList 8 = some ([.nil, .nil], [], places) :=
  ⟨[], by kernel_rfl⟩

set_option maxRecDepth 100000 in
theorem lifted (os : Os) (started : os.Started) (H : Type) (enc : TypeId × Value → H) (F : Stop.Interp) :
    ReturnsInHanded {} Tryz.checked os 4 .any ((Rows.OpenSpec.upto Rows.worldNestsSpec).preRow enc Tryz.prog Tryz.f4 Rows.worldNestsUptoRow.domain false Rows.worldNestsUptoRow.laid) (((Rows.OpenSpec.upto Rows.worldNestsSpec).at F).post enc Tryz.prog Tryz.f4 false true false false) := by
  obtain ⟨places, hx⟩ := reads os enc
  refine returnsInHanded_of_row (C := Tryz.checked) (s := Rows.OpenSpec.upto Rows.worldNestsSpec) own started (by kernel_rfl) func4
    (witness_row_at (enc := enc) (C := Tryz.checked) false (aC1 os) #[.slice none 0 0, .slice none 0 0] rfl (by kernel_rfl) (by kernel_rfl) (by kernel_rfl)
      (OpenSpec.preRow_of_cond 8 hx (by kernel_rfl) (fun k hk => by cases hk; kernel_rfl) (by kernel_rfl) (aNe os))) ?_
  intro W base args ds gs before hval hW _ aNV _ hL hSh _
  exact contract H enc W base args ds gs before hval hW hL hSh (aNV _ rfl)

theorem kJ {a b : Bool} (h : a = true) (k : b = true) : (a && b) = true := by rw [h, k]; rfl
theorem aOO : (Rows.worldNestsUptoRow.inPlace == Tryz.pinned.checked.prog.inPlace 4) = true := by kernel_rfl
theorem aOL : (Rows.worldNestsUptoRow.unfollowed == Tryz.pinned.checked.prog.unfollowed 4) = true := by kernel_rfl
theorem aOM : (Rows.worldNestsUptoRow.recurses == Tryz.pinned.checked.prog.recurses 4) = true := by kernel_rfl
theorem aON : (Rows.worldNestsUptoRow.named == Tryz.pinned.checked.prog.varsNamed 4) = true := by kernel_rfl
theorem closed : joinedFacts Tryz.pinned.checked.prog 4 Tryz.f4 (Rows.OpenSpec.upto Rows.worldNestsSpec).bare Rows.worldNestsUptoRow = true := (kJ (kJ (kJ (kJ (kJ (kJ (kJ (kJ (kJ (kJ (kJ (kJ (kJ (kJ (kJ (kJ (kJ (kJ (kJ (kJ (kJ (kJ (kJ (kJ (kJ (kJ (kJ (kJ (kJ (kJ (kJ (by kernel_rfl) (by kernel_rfl)) (by kernel_rfl)) (by kernel_rfl)) (by kernel_rfl)) (by kernel_rfl)) (by kernel_rfl)) (by kernel_rfl)) (by kernel_rfl)) aOO) aOL) aOM) aON) (by kernel_rfl)) (by kernel_rfl)) (by kernel_rfl)) (by kernel_rfl)) (by kernel_rfl)) (by kernel_rfl)) (by kernel_rfl)) (by kernel_rfl)) (by kernel_rfl)) (by kernel_rfl)) (by kernel_rfl)) (by kernel_rfl)) (by kernel_rfl)) (by kernel_rfl)) (by kernel_rfl)) (by kernel_rfl)) (by kernel_rfl)) (by kernel_rfl)) (by kernel_rfl))
theorem said : Rows.WorldNestsUptoSaid :=
  OpenClaim.holds_of_cond 4 Tryz.f4 rfl rfl rfl rfl rfl rfl rfl ⟨rfl, rfl, rfl, rfl, rfl⟩ rfl rfl rfl rfl rfl (by kernel_rfl) func4 closed
    (of_decide_eq_true (by kernel_rfl)) (by unfold Func.isWrapper; first | (rw [if_pos (by decide +kernel)]; kernel_rfl) | (rw [if_neg (by decide +kernel)]; exact ⟨rfl, rfl⟩))
    (fun os started H enc _ F => by rw [OpenClaim.pre_eq_preRow]; exact lifted os started H enc F)

/-- No parameter wants a stand-in; the program's own looks are off: what the card asks. -/
theorem plain (f : FuncId) (fn : Func) (hf : Tryz.pinned.checked.prog.funcNamed "catnap/catnaplaw19.WorldNests" = some f) (hfn : Tryz.pinned.checked.prog.funcs[f]? = some fn) :
    false = Tryz.pinned.checked.prog.looks [] ∧ ∀ (j : Nat) t, fn.params[j]? = some t → Tryz.pinned.checked.prog.wantsStandIn t = false := by
  obtain rfl : f = 4 := Option.some.inj ((show Tryz.prog.funcNamed "catnap/catnaplaw19.WorldNests" = some 4 by kernel_rfl).symm.trans hf) |>.symm
  obtain rfl : fn = Tryz.f4 := (Option.some.inj (func4.symm.trans hfn)).symm
  refine ⟨by kernel_rfl, fun j t ht => ?_⟩

  have aCU : Tryz.prog.wantsStandIn 22 = false := by kernel_rfl
  have aCV : Tryz.prog.wantsStandIn 23 = false := by kernel_rfl
  rw [Tryz.params4] at ht
  have hm := Array.mem_of_getElem? ht
  simp at hm
  rcases hm with rfl | rfl
  · exact aCU
  · exact aCV

/-- THE CARD -/
theorem card : Rows.WorldNestsUptoCardSaid :=
  Claim7.holds_tied_plain_at .later [] _ _ _ _ said (fun _ h => by cases h) (by kernel_rfl) (fun _ h => by cases h) worldNestsUpto_row_tie rfl ⟨rfl, rfl⟩ (by kernel_rfl) rfl plain (by kernel_rfl)
#print axioms card
end Go.Proofs.YtkgekojkboingaaGreatDoor.worldNests
