/- WorldEnds: for every input that holds together at most 1048576 values and letters the law returns true, and changes nothing that was there. No other condition. -/
import Derived.Test.YtmpkkaknjkffpaaGreatDoorWorldEndsK8
import Derived.Test.YtmpkkaknjkffpaaGreatDoorCards
import Derived.Test.YtmpkkaknjkffpaaGreatDoorTie
import Derived.Deep.DeepHandedRow
import Derived.Lib.LaidTab
import Derived.SevenTiedAt
import Derived.ChangeMaps5
import Derived.Lib.LaidU8
namespace Go.Proofs.YtmpkkaknjkffpaaGreatDoor.worldEnds
set_option linter.all false
set_option maxHeartbeats 4000000
set_option maxRecDepth 20000
open Go.ChangeShapes Go.ChangeMaps Go.WideShapes Go.ChangeAt Go.RowKit Go.Proofs.Tryz

theorem own : ownKnob Tryz.prog.godebug = none := by kernel_rfl
theorem laidOut : laidOutB Tryz.prog = true := by kernel_rfl
theorem Xy {W : World} {g o : Nat} {v : Value} (hM0 : W.cell? ⟨g, o, none⟩ = some v) : g < W.heap.size := by
  rcases Nat.lt_or_ge g W.heap.size with h | h
  · exact h
  · have h2 : W.cell? ⟨g, o, none⟩ = none := by simp [World.cell?, Array.getElem?_eq_none h]
    cases h2.symm.trans hM0
theorem aTg {a : Int} (h : (Lit.int .u64 a).wf = true) : 0 ≤ a ∧ a < 18446744073709551616 := by
  simp [Lit.wf, IntKind.min, IntKind.max, IntKind.signed, IntKind.bits] at h
  omega
theorem aQI : Tryz.prog.cellsOf 3 = 1 := by kernel_rfl
theorem params : ∀ t ∈ Tryz.f3.params.toList, Tryz.prog.readableRec t = true ∧ t < Tryz.prog.types.size := by
  have aB9 : Tryz.prog.readableRec 22 = true ∧ 22 < Tryz.prog.types.size := ⟨by kernel_rfl, of_decide_eq_true (by kernel_rfl)⟩
  have aBB : Tryz.prog.readableRec 23 = true ∧ 23 < Tryz.prog.types.size := ⟨by kernel_rfl, of_decide_eq_true (by kernel_rfl)⟩
  have aBA : Tryz.prog.readableRec 3 = true ∧ 3 < Tryz.prog.types.size := ⟨by kernel_rfl, of_decide_eq_true (by kernel_rfl)⟩
  rw [Tryz.params3]
  intro t ht
  simp at ht
  rcases ht with rfl | rfl | rfl
  · exact aB9
  · exact aBB
  · exact aBA
theorem Qz : Tryz.prog.globalNamed "catnap/quiet.letters" = some 0 := by kernel_rfl
theorem aOh : (Tryz.prog.globals[0]?).map (·.type) = some 336 := by kernel_rfl
theorem aQK : Tryz.prog.cellsOf 336 = 4 := by kernel_rfl
theorem aQJ : Tryz.prog.cellsOf 5 = 1 := by kernel_rfl
theorem table {W : World} (h : laidMetH Tryz.prog Rows.worldEndsUptoRow.laid W) : Lib.TabIs Tryz.prog W "catnap/quiet.letters" .u8 [114, 97, 115, 100] :=
  Lib.tabIs_of_head (rest := []) Qz aOh Tryz.underlying336 Tryz.underlying5 aQJ aQK h
theorem aMZ {W : World} (h : laidMetH Tryz.prog Rows.worldEndsUptoRow.laid W) : eV (all W) := by
  have t := table h
  have c0 := t.cell Qz 0 (by decide)
  have c1 := t.cell Qz 1 (by decide)
  have c2 := t.cell Qz 2 (by decide)
  have c3 := t.cell Qz 3 (by decide)
  intro i v hv
  have hi : i = 0 ∨ i = 1 ∨ i = 2 ∨ i = 3 := by
    have h4 := (List.getElem?_eq_some_iff.1 hv).1
    simp at h4
    omega
  rcases hi with rfl | rfl | rfl | rfl
  · simp at hv
    subst hv
    exact ⟨Xy c0, c0⟩
  · simp at hv
    subst hv
    exact ⟨Xy c0, c1⟩
  · simp at hv
    subst hv
    exact ⟨Xy c0, c2⟩
  · simp at hv
    subst hv
    exact ⟨Xy c0, c3⟩

set_option maxRecDepth 100000 in
theorem contract (H : Type) (enc : TypeId × Value → H) (W : World) (base : Nat) (args : Array Value) (ds gs : List (DataW H)) (before : List MemPlace)
    (hval : ∀ (j : Nat) t v, Tryz.f3.params[j]? = some t → args[j]? = some v → Value.okWide Tryz.prog W .any base t v)
    (hW : DataW.Whole enc Tryz.prog Tryz.f3.params.toList Rows.worldEndsSpec.vars false W args.toList ds gs before) (hL : laidMetH Tryz.prog Rows.worldEndsUptoRow.laid W) (hSh : W.ShapedOpen Tryz.prog) (hk : Rows.uptoSmall H (ds ++ gs) = true) :
    Calls Tryz.prog 3 args W fun e W' => ∃ v, e = .returned v ∧ Rows.worldEndsSpec.post enc Tryz.prog Tryz.f3 false true false false W args v W' := by
  have hW' := hW
  obtain ⟨p, q, hA, hV, rfl, hfz, hnd⟩ := hW
  have hpp := Tryz.params3
  rw [hpp] at hA hval
  obtain ⟨v0, vs0, d0, ds0, p0, q0, hargs, rfl, rfl, h0, r0⟩ := trodAll_cons hA
  obtain ⟨v1, vs1, d1, ds1, p1, q1, rfl, rfl, rfl, h1, r1⟩ := trodAll_cons r0
  obtain ⟨v2, vs2, d2, ds2, p2, q2, rfl, rfl, rfl, h2, r2⟩ := trodAll_cons r1
  obtain ⟨rfl, rfl, rfl⟩ := trodAll_nil r2
  obtain rfl : args = #[v0, v1, v2] := by cases args; simp_all
  obtain ⟨A0, n0, c0, zs0, rfl, hs0, hi0, hn0, hm0⟩ := aLO Tryz.underlying22 Tryz.underlying3 aQI (hval 0 22 v0 rfl rfl) h0
  obtain ⟨A1, n1, c1, ac1, rfl, hs1, ho1, Ga, hm1⟩ := aLP (hval 1 23 v1 rfl rfl) h1
  have hb1 : n1 ≤ 2000000 := Nat.le_trans (aQX hk (List.mem_append_left _ (by simp)) (aQT Tryz.underlying23 h1)) (by decide)
  obtain ⟨a2, rfl, rfl, rfl, w2⟩ := open_int Tryz.underlying3 (hval 2 3 v2 rfl rfl) h2
  refine (aII A0 n0 c0 zs0 A1 n1 c1 ac1 a2 W (aHI hs0) hi0 hn0 hm0 (aHI hs1) ho1 Ga hb1 (yE w2) (aMZ hL)).mono fun e W' ⟨he, hg⟩ => ?_
  exact ⟨_, he, aLx laidOut params (by kernel_rfl) Tryz.underlying4 rfl hW' rfl hg⟩

def aJ3 : Array Value := #[.int .u8 114, .int .u8 97, .int .u8 115, .int .u8 100]
/-- A WORLD FOR THE WITNESS: the settled one, the tables holding what their initialisers lay. -/
noncomputable def aBp (os : Os) : World :=
  { World.holding Tryz.prog os ⟨#[], #[], []⟩ with heap := ((World.holding Tryz.prog os ⟨#[], #[], []⟩).heap).modify 0 fun | .cells _ t frozen => .cells aJ3 t frozen | o => o }
set_option maxRecDepth 100000 in
theorem aNb (os : Os) : laidMet Tryz.prog Rows.worldEndsUptoRow.laid ((aBp os).forCall (fun _ _ => 0) ⟨#[], #[.slice none 0 0, .slice none 0 0, .int .i64 0], []⟩).memory :=
  laidMet_of_run' 8 (by kernel_rfl) (by kernel_rfl)
theorem reads (os : Os) {H : Type} (enc : TypeId × Value → H) : ∃ places, DataW.whole enc Tryz.prog ((aBp os).forCall (fun _ _ => 0) ⟨#[], #[.slice none 0 0, .slice none 0 0, .int .i64 0], []⟩).memory Tryz.f3.params.toList Rows.worldEndsSpec.vars false #[.slice none 0 0, .slice none 0 0, .int .i64 0].toList 8 = some ([.nil, .nil, .lit (.int .i64 0)], [], places) :=
  ⟨[], by kernel_rfl⟩

set_option maxRecDepth 100000 in
theorem lifted (os : Os) (started : os.Started) (H : Type) (enc : TypeId × Value → H) (F : Stop.Interp) :
    ReturnsInHanded {} Tryz.checked os 3 .any ((Rows.OpenSpec.upto Rows.worldEndsSpec).preRow enc Tryz.prog Tryz.f3 Rows.worldEndsUptoRow.domain false Rows.worldEndsUptoRow.laid) (((Rows.OpenSpec.upto Rows.worldEndsSpec).at F).post enc Tryz.prog Tryz.f3 false true false false) := by
  obtain ⟨places, hx⟩ := reads os enc
  refine returnsInHanded_of_row (C := Tryz.checked) (s := Rows.OpenSpec.upto Rows.worldEndsSpec) own started (by kernel_rfl) func3
    (witness_row_at (enc := enc) (C := Tryz.checked) false (aBp os) #[.slice none 0 0, .slice none 0 0, .int .i64 0] rfl (by kernel_rfl) (by kernel_rfl) (by kernel_rfl)
      (OpenSpec.preRow_of_cond 8 hx (by kernel_rfl) (fun k hk => by cases hk; kernel_rfl) (by kernel_rfl) (aNb os))) ?_
  intro W base args ds gs before hval hW _ aNJ _ hL hSh _
  exact contract H enc W base args ds gs before hval hW hL hSh (aNJ _ rfl)

theorem kZ {a b : Bool} (h : a = true) (k : b = true) : (a && b) = true := by rw [h, k]; rfl
theorem aOH : (Rows.worldEndsUptoRow.inPlace == Tryz.pinned.checked.prog.inPlace 3) = true := by kernel_rfl
theorem aOE : (Rows.worldEndsUptoRow.unfollowed == Tryz.pinned.checked.prog.unfollowed 3) = true := by kernel_rfl
theorem aOF : (Rows.worldEndsUptoRow.recurses == Tryz.pinned.checked.prog.recurses 3) = true := by kernel_rfl
theorem aOG : (Rows.worldEndsUptoRow.named == Tryz.pinned.checked.prog.varsNamed 3) = true := by kernel_rfl
theorem closed : joinedFacts Tryz.pinned.checked.prog 3 Tryz.f3 (Rows.OpenSpec.upto Rows.worldEndsSpec).bare Rows.worldEndsUptoRow = true := (kZ (kZ (kZ (kZ (kZ (kZ (kZ (kZ (kZ (kZ (kZ (kZ (kZ (kZ (kZ (kZ (kZ (kZ (kZ (kZ (kZ (kZ (kZ (kZ (kZ (kZ (kZ (kZ (kZ (kZ (kZ (by kernel_rfl) (by kernel_rfl)) (by kernel_rfl)) (by kernel_rfl)) (by kernel_rfl)) (by kernel_rfl)) (by kernel_rfl)) (by kernel_rfl)) (by kernel_rfl)) aOH) aOE) aOF) aOG) (by kernel_rfl)) (by kernel_rfl)) (by kernel_rfl)) (by kernel_rfl)) (by kernel_rfl)) (by kernel_rfl)) (by kernel_rfl)) (by kernel_rfl)) (by kernel_rfl)) (by kernel_rfl)) (by kernel_rfl)) (by kernel_rfl)) (by kernel_rfl)) (by kernel_rfl)) (by kernel_rfl)) (by kernel_rfl)) (by kernel_rfl)) (by kernel_rfl)) (by kernel_rfl))
theorem said : Rows.WorldEndsUptoSaid :=
  OpenClaim.holds_of_cond 3 Tryz.f3 rfl rfl rfl rfl rfl rfl rfl ⟨rfl, rfl, rfl, rfl, rfl⟩ rfl rfl rfl rfl rfl (by kernel_rfl) func3 closed
    (of_decide_eq_true (by kernel_rfl)) (by unfold Func.isWrapper; first | (rw [if_pos (by decide +kernel)]; kernel_rfl) | (rw [if_neg (by decide +kernel)]; exact ⟨rfl, rfl⟩))
    (fun os started H enc _ F => by rw [OpenClaim.pre_eq_preRow]; exact lifted os started H enc F)

/-- No parameter wants a stand-in; the program's own looks are off: what the card asks. -/
theorem plain (f : FuncId) (fn : Func) (hf : Tryz.pinned.checked.prog.funcNamed "catnap/catnaplaw19.WorldEnds" = some f) (hfn : Tryz.pinned.checked.prog.funcs[f]? = some fn) :
    false = Tryz.pinned.checked.prog.looks [] ∧ ∀ (j : Nat) t, fn.params[j]? = some t → Tryz.pinned.checked.prog.wantsStandIn t = false := by
  obtain rfl : f = 3 := Option.some.inj ((show Tryz.prog.funcNamed "catnap/catnaplaw19.WorldEnds" = some 3 by kernel_rfl).symm.trans hf) |>.symm
  obtain rfl : fn = Tryz.f3 := (Option.some.inj (func3.symm.trans hfn)).symm
  refine ⟨by kernel_rfl, fun j t ht => ?_⟩

  have aB9 : Tryz.prog.wantsStandIn 22 = false := by kernel_rfl
  have aBB : Tryz.prog.wantsStandIn 23 = false := by kernel_rfl
  have aBA : Tryz.prog.wantsStandIn 3 = false := by kernel_rfl
  rw [Tryz.params3] at ht
  have hm := Array.mem_of_getElem? ht
  simp at hm
  rcases hm with rfl | rfl | rfl
  · exact aB9
  · exact aBB
  · exact aBA

/-- THE CARD -/
theorem card : Rows.WorldEndsUptoCardSaid :=
  Claim7.holds_tied_plain_at .later [] _ _ _ _ said (fun _ h => by cases h) (by kernel_rfl) (fun _ h => by cases h) worldEndsUpto_row_tie rfl ⟨rfl, rfl⟩ (by kernel_rfl) rfl plain (by kernel_rfl)
#print axioms card
end Go.Proofs.YtmpkkaknjkffpaaGreatDoor.worldEnds
