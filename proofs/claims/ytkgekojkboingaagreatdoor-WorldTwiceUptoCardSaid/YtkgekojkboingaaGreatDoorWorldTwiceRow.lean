/- WorldTwice: for every input that holds together at most 1048576 values and letters the law returns true, and changes nothing that was there. No other condition. -/
import Derived.Test.YtkgekojkboingaaGreatDoorWorldTwiceK8
import Derived.Test.YtkgekojkboingaaGreatDoorCards
import Derived.Test.YtkgekojkboingaaGreatDoorTie
import Derived.Deep.DeepHandedRow
import Derived.Lib.LaidTab
import Derived.SevenTiedAt
import Derived.ChangeMaps5
import Derived.Lib.LaidU8
namespace Go.Proofs.YtkgekojkboingaaGreatDoor.worldTwice
set_option linter.all false
set_option maxHeartbeats 4000000
set_option maxRecDepth 20000
open Go.ChangeShapes Go.ChangeMaps Go.WideShapes Go.ChangeAt Go.RowKit Go.Proofs.Tryz

theorem own : ownKnob Tryz.prog.godebug = none := by kernel_rfl
theorem laidOut : laidOutB Tryz.prog = true := by kernel_rfl
theorem aAO {W : World} {g o : Nat} {v : Value} (hM0 : W.cell? ⟨g, o, none⟩ = some v) : g < W.heap.size := by
  rcases Nat.lt_or_ge g W.heap.size with h | h
  · exact h
  · have h2 : W.cell? ⟨g, o, none⟩ = none := by simp [World.cell?, Array.getElem?_eq_none h]
    cases h2.symm.trans hM0
theorem aSR {a : Int} (h : (Lit.int .u64 a).wf = true) : 0 ≤ a ∧ a < 18446744073709551616 := by
  simp [Lit.wf, IntKind.min, IntKind.max, IntKind.signed, IntKind.bits] at h
  omega
theorem aQG : Tryz.prog.cellsOf 3 = 1 := by kernel_rfl
theorem params : ∀ t ∈ Tryz.f6.params.toList, Tryz.prog.readableRec t = true ∧ t < Tryz.prog.types.size := by
  have aCY : Tryz.prog.readableRec 22 = true ∧ 22 < Tryz.prog.types.size := ⟨by kernel_rfl, of_decide_eq_true (by kernel_rfl)⟩
  have aCZ : Tryz.prog.readableRec 23 = true ∧ 23 < Tryz.prog.types.size := ⟨by kernel_rfl, of_decide_eq_true (by kernel_rfl)⟩
  rw [Tryz.params6]
  intro t ht
  simp at ht
  rcases ht with rfl | rfl
  · exact aCY
  · exact aCZ
theorem Wg : Tryz.prog.globalNamed "catnap/quiet.letters" = some 0 := by kernel_rfl
theorem aOx : (Tryz.prog.globals[0]?).map (·.type) = some 325 := by kernel_rfl
theorem aQI : Tryz.prog.cellsOf 325 = 4 := by kernel_rfl
theorem aQH : Tryz.prog.cellsOf 5 = 1 := by kernel_rfl
theorem table {W : World} (h : laidMetH Tryz.prog Rows.worldTwiceUptoRow.laid W) : Lib.TabIs Tryz.prog W "catnap/quiet.letters" .u8 [114, 97, 115, 100] :=
  Lib.tabIs_of_head (rest := []) Wg aOx Tryz.underlying325 Tryz.underlying5 aQH aQI h
theorem aNl {W : World} (h : laidMetH Tryz.prog Rows.worldTwiceUptoRow.laid W) : eM (all W) := by
  have t := table h
  have c0 := t.cell Wg 0 (by decide)
  have c1 := t.cell Wg 1 (by decide)
  have c2 := t.cell Wg 2 (by decide)
  have c3 := t.cell Wg 3 (by decide)
  intro i v hv
  have hi : i = 0 ∨ i = 1 ∨ i = 2 ∨ i = 3 := by
    have h4 := (List.getElem?_eq_some_iff.1 hv).1
    simp at h4
    omega
  rcases hi with rfl | rfl | rfl | rfl
  · simp at hv
    subst hv
    exact ⟨aAO c0, c0⟩
  · simp at hv
    subst hv
    exact ⟨aAO c0, c1⟩
  · simp at hv
    subst hv
    exact ⟨aAO c0, c2⟩
  · simp at hv
    subst hv
    exact ⟨aAO c0, c3⟩

set_option maxRecDepth 100000 in
theorem contract (H : Type) (enc : TypeId × Value → H) (W : World) (base : Nat) (args : Array Value) (ds gs : List (DataW H)) (before : List MemPlace)
    (hval : ∀ (j : Nat) t v, Tryz.f6.params[j]? = some t → args[j]? = some v → Value.okWide Tryz.prog W .any base t v)
    (hW : DataW.Whole enc Tryz.prog Tryz.f6.params.toList Rows.worldTwiceSpec.vars false W args.toList ds gs before) (hL : laidMetH Tryz.prog Rows.worldTwiceUptoRow.laid W) (hSh : W.ShapedOpen Tryz.prog) (hk : Rows.uptoSmall H (ds ++ gs) = true) :
    Calls Tryz.prog 6 args W fun e W' => ∃ v, e = .returned v ∧ Rows.worldTwiceSpec.post enc Tryz.prog Tryz.f6 false true false false W args v W' := by
  have Wd := hW
  obtain ⟨p, q, hA, hV, rfl, hfz, hnd⟩ := hW
  have hpp := Tryz.params6
  rw [hpp] at hA hval
  obtain ⟨v0, vs0, d0, ds0, p0, q0, hargs, rfl, rfl, h0, r0⟩ := trodAll_cons hA
  obtain ⟨v1, vs1, d1, ds1, p1, q1, rfl, rfl, rfl, h1, r1⟩ := trodAll_cons r0
  obtain ⟨v2, vs2, d2, ds2, p2, q2, rfl, rfl, rfl, h2, r2⟩ := trodAll_cons r1
  obtain ⟨rfl, rfl, rfl⟩ := trodAll_nil r2
  obtain rfl : args = #[v0, v1, v2] := by cases args; simp_all
  obtain ⟨A0, n0, c0, zs0, rfl, hs0, nJ, hn0, hm0⟩ := aMn Tryz.underlying22 Tryz.underlying3 aQG (hval 0 22 v0 rfl rfl) h0
  obtain ⟨A1, n1, c1, ac1, rfl, hs1, ho1, qG, hm1⟩ := aFJ (hval 1 23 v1 rfl rfl) h1
  have Bd : n1 ≤ 2000000 := Nat.le_trans (aHO hk (List.mem_append_left _ (by simp)) (aHN Tryz.underlying23 h1)) (by decide)
  obtain ⟨A2, n2, c2, ac2, rfl, iH, ho2, hn2, hm2⟩ := aFJ (hval 2 23 v2 rfl rfl) h2
  have dZ : n2 ≤ 2000000 := Nat.le_trans (aHO hk (List.mem_append_left _ (by simp)) (aHN Tryz.underlying23 h2)) (by decide)
  refine (aJ4 A0 n0 c0 zs0 A1 n1 c1 ac1 A2 n2 c2 ac2 W (aEf hs0) nJ hn0 hm0 (aEf hs1) ho1 qG Bd (aEf iH) ho2 hn2 dZ (aNl hL)).mono fun e W' ⟨he, hg⟩ => ?_
  exact ⟨_, he, aLU laidOut params (by kernel_rfl) Tryz.underlying4 rfl Wd rfl hg⟩

def aKk : Array Value := #[.int .u8 114, .int .u8 97, .int .u8 115, .int .u8 100]
/-- A WORLD FOR THE WITNESS: the settled one, the tables holding what their initialisers lay. -/
noncomputable def aC3 (os : Os) : World :=
  { World.holding Tryz.prog os ⟨#[], #[], []⟩ with heap := ((World.holding Tryz.prog os ⟨#[], #[], []⟩).heap).modify 0 fun | .cells _ t frozen => .cells aKk t frozen | o => o }
set_option maxRecDepth 100000 in
theorem aNm (os : Os) : laidMet Tryz.prog Rows.worldTwiceUptoRow.laid ((aC3 os).forCall (fun _ _ => 0) ⟨#[], #[.slice none 0 0, .slice none 0 0, .slice none 0 0], []⟩).memory :=
  laidMet_of_run' 8 (by kernel_rfl) (by kernel_rfl)
theorem reads (os : Os) {H : Type} (enc : TypeId × Value → H) : ∃ places, DataW.whole enc Tryz.prog ((aC3 os).forCall (fun _ _ => 0) ⟨#[], #[.slice none 0 0, .slice none 0 0, .slice none 0 0], []⟩).memory Tryz.f6.params.toList Rows.worldTwiceSpec.vars false #[.slice none 0 0, .slice none 0 0, .slice none 0 0].toList 8 = some ([.nil, .nil, .nil], [], places) :=
  ⟨[], by kernel_rfl⟩

set_option maxRecDepth 100000 in
theorem lifted (os : Os) (started : os.Started) (H : Type) (enc : TypeId × Value → H) (F : Stop.Interp) :
    ReturnsInHanded {} Tryz.checked os 6 .any ((Rows.OpenSpec.upto Rows.worldTwiceSpec).preRow enc Tryz.prog Tryz.f6 Rows.worldTwiceUptoRow.domain false Rows.worldTwiceUptoRow.laid) (((Rows.OpenSpec.upto Rows.worldTwiceSpec).at F).post enc Tryz.prog Tryz.f6 false true false false) := by
  obtain ⟨places, hx⟩ := reads os enc
  refine returnsInHanded_of_row (C := Tryz.checked) (s := Rows.OpenSpec.upto Rows.worldTwiceSpec) own started (by kernel_rfl) func6
    (witness_row_at (enc := enc) (C := Tryz.checked) false (aC3 os) #[.slice none 0 0, .slice none 0 0, .slice none 0 0] rfl (by kernel_rfl) (by kernel_rfl) (by kernel_rfl)
      (OpenSpec.preRow_of_cond 8 hx (by kernel_rfl) (fun k hk => by cases hk; kernel_rfl) (by kernel_rfl) (aNm os))) ?_
  intro W base args ds gs before hval hW _ aNZ _ hL hSh _
  exact contract H enc W base args ds gs before hval hW hL hSh (aNZ _ rfl)

theorem kJ {a b : Bool} (h : a = true) (k : b = true) : (a && b) = true := by rw [h, k]; rfl
theorem aOT : (Rows.worldTwiceUptoRow.inPlace == Tryz.pinned.checked.prog.inPlace 6) = true := by kernel_rfl
theorem aOQ : (Rows.worldTwiceUptoRow.unfollowed == Tryz.pinned.checked.prog.unfollowed 6) = true := by kernel_rfl
theorem aOR : (Rows.worldTwiceUptoRow.recurses == Tryz.pinned.checked.prog.recurses 6) = true := by kernel_rfl
theorem aOS : (Rows.worldTwiceUptoRow.named == Tryz.pinned.checked.prog.varsNamed 6) = true := by kernel_rfl
theorem closed : joinedFacts Tryz.pinned.checked.prog 6 Tryz.f6 (Rows.OpenSpec.upto Rows.worldTwiceSpec).bare Rows.worldTwiceUptoRow = true := (kJ (kJ (kJ (kJ (kJ (kJ (kJ (kJ (kJ (kJ (kJ (kJ (kJ (kJ (kJ (kJ (kJ (kJ (kJ (kJ (kJ (kJ (kJ (kJ (kJ (kJ (kJ (kJ (kJ (kJ (kJ (by kernel_rfl) (by kernel_rfl)) (by kernel_rfl)) (by kernel_rfl)) (by kernel_rfl)) (by kernel_rfl)) (by kernel_rfl)) (by kernel_rfl)) (by kernel_rfl)) aOT) aOQ) aOR) aOS) (by kernel_rfl)) (by kernel_rfl)) (by kernel_rfl)) (by kernel_rfl)) (by kernel_rfl)) (by kernel_rfl)) (by kernel_rfl)) (by kernel_rfl)) (by kernel_rfl)) (by kernel_rfl)) (by kernel_rfl)) (by kernel_rfl)) (by kernel_rfl)) (by kernel_rfl)) (by kernel_rfl)) (by kernel_rfl)) (by kernel_rfl)) (by kernel_rfl)) (by kernel_rfl))
theorem said : Rows.WorldTwiceUptoSaid :=
  OpenClaim.holds_of_cond 6 Tryz.f6 rfl rfl rfl rfl rfl rfl rfl ⟨rfl, rfl, rfl, rfl, rfl⟩ rfl rfl rfl rfl rfl (by kernel_rfl) func6 closed
    (of_decide_eq_true (by kernel_rfl)) (by unfold Func.isWrapper; first | (rw [if_pos (by decide +kernel)]; kernel_rfl) | (rw [if_neg (by decide +kernel)]; exact ⟨rfl, rfl⟩))
    (fun os started H enc _ F => by rw [OpenClaim.pre_eq_preRow]; exact lifted os started H enc F)

/-- No parameter wants a stand-in; the program's own looks are off: what the card asks. -/
theorem plain (f : FuncId) (fn : Func) (hf : Tryz.pinned.checked.prog.funcNamed "catnap/catnaplaw19.WorldTwice" = some f) (hfn : Tryz.pinned.checked.prog.funcs[f]? = some fn) :
    false = Tryz.pinned.checked.prog.looks [] ∧ ∀ (j : Nat) t, fn.params[j]? = some t → Tryz.pinned.checked.prog.wantsStandIn t = false := by
  obtain rfl : f = 6 := Option.some.inj ((show Tryz.prog.funcNamed "catnap/catnaplaw19.WorldTwice" = some 6 by kernel_rfl).symm.trans hf) |>.symm
  obtain rfl : fn = Tryz.f6 := (Option.some.inj (func6.symm.trans hfn)).symm
  refine ⟨by kernel_rfl, fun j t ht => ?_⟩

  have aCY : Tryz.prog.wantsStandIn 22 = false := by kernel_rfl
  have aCZ : Tryz.prog.wantsStandIn 23 = false := by kernel_rfl
  rw [Tryz.params6] at ht
  have hm := Array.mem_of_getElem? ht
  simp at hm
  rcases hm with rfl | rfl
  · exact aCY
  · exact aCZ

/-- THE CARD -/
theorem card : Rows.WorldTwiceUptoCardSaid :=
  Claim7.holds_tied_plain_at .later [] _ _ _ _ said (fun _ h => by cases h) (by kernel_rfl) (fun _ h => by cases h) worldTwiceUpto_row_tie rfl ⟨rfl, rfl⟩ (by kernel_rfl) rfl plain (by kernel_rfl)
#print axioms card
end Go.Proofs.YtkgekojkboingaaGreatDoor.worldTwice
