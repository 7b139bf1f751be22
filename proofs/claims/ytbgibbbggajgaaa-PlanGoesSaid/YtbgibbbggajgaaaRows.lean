/-
  No cell of these rows narrows 'for every input' (looked for: loops, veiled, ifaces, maps, wideKeys, modest, calm, conditions, laid).
  DERIVED. THE GIVEN ROWS OF THIS SEAT. 9 by the template 'for every input the law returns true; each argument reads behind the call as it read before'; 0 by the template 'total and deterministic' (their statements: YtbgibbbggajgaaaTotals.lean).
  GIVEN WITH THE SEED: the statements are not yours to turn. If you find one false, say at which input.
  Laid BY PROGRAM, IN A SANDBOX (cutbox-rows.mjs): the forced cells as the released guide's own fill.sh prints them over the translation 497674dfc4e336a8… (all of the seat's roots in one cut). By AI agents, Wed Nov 11 2026. No macro, syntax, notation, axiom, sorry.
-/
import Derived.Test.YtbgibbbggajgaaaChecked
import GoSem.Claim
import GoSem.ClaimJoined
import GoSem.ClaimMapViews
import Derived.JoinedTies
import Derived.KernelRfl
namespace Go.Proofs.Ytbgibbbggajgaaa
/- THE CELL 'sum', in the pinned program and in every row, IS THE sha256 OF THE DUMP (.gsa) THAT YtbgibbbggajgaaaProg.lean LOADS. Nothing in Lean hashes anything: it is a label: what it is worth is what the hold of that sum in a sandbox is worth. -/
noncomputable def Try.pinned : Pinned := { name := "ytbgibbbggajgaaa", sum := "497674dfc4e336a834c8a6ae87efc45be37f8a52687b92af2b943d35aac68ef8", checked := Try.checked }
namespace Rows
def none {H : Type} : Left H := { results := [], args := [] }

/-- 'catnaplaw20.AuditAdds': WHATEVER THE INPUT: true; the input reads as it did. -/
def auditAddsSpec : ChangeSpec := { name := "auditAdds", fn := fun _ => fun
  | [d1, d2] => { results := [.lit (.bool true)], args := [d1, d2] }
  | _ => none }
def auditAddsRow : OpenClaim := { program := "ytbgibbbggajgaaa", sum := "497674dfc4e336a834c8a6ae87efc45be37f8a52687b92af2b943d35aac68ef8", func := "catnap/catnaplaw20.AuditAdds", spec := "auditAdds", unfollowed := true, recurses := true, plainKeys := false, apart := false }
def AuditAddsSaid : Prop := auditAddsRow.holds Try.pinned (OpenSpec.ofChange auditAddsSpec)

/-- ITS FALSE NEIGHBOUR: 'it returns false'. Refute it at one input. -/
def auditAddsWrong : ChangeSpec := { name := "auditAdds", fn := fun _ => fun
  | [d1, d2] => { results := [.lit (.bool false)], args := [d1, d2] }
  | _ => none }
def AuditAddsWrongFalsely : Prop := auditAddsRow.holds Try.pinned (OpenSpec.ofChange auditAddsWrong)

/-- 'catnaplaw20.AuditOpens': WHATEVER THE INPUT: true; the input reads as it did. -/
def auditOpensSpec : ChangeSpec := { name := "auditOpens", fn := fun _ => fun
  | [d] => { results := [.lit (.bool true)], args := [d] }
  | _ => none }
def auditOpensRow : OpenClaim := { program := "ytbgibbbggajgaaa", sum := "497674dfc4e336a834c8a6ae87efc45be37f8a52687b92af2b943d35aac68ef8", func := "catnap/catnaplaw20.AuditOpens", spec := "auditOpens", unfollowed := true, recurses := true, plainKeys := false, apart := false }
def AuditOpensSaid : Prop := auditOpensRow.holds Try.pinned (OpenSpec.ofChange auditOpensSpec)

/-- ITS FALSE NEIGHBOUR: 'it returns false'. Refute it at one input. -/
def auditOpensWrong : ChangeSpec := { name := "auditOpens", fn := fun _ => fun
  | [d] => { results := [.lit (.bool false)], args := [d] }
  | _ => none }
def AuditOpensWrongFalsely : Prop := auditOpensRow.holds Try.pinned (OpenSpec.ofChange auditOpensWrong)

/-- 'catnaplaw17.PlanOrders': WHATEVER THE INPUT: true; the input reads as it did. -/
def planOrdersSpec : ChangeSpec := { name := "planOrders", fn := fun _ => fun
  | [d1, d2, d3] => { results := [.lit (.bool true)], args := [d1, d2, d3] }
  | _ => none }
def planOrdersRow : OpenClaim := { program := "ytbgibbbggajgaaa", sum := "497674dfc4e336a834c8a6ae87efc45be37f8a52687b92af2b943d35aac68ef8", func := "catnap/catnaplaw17.PlanOrders", spec := "planOrders", unfollowed := true, recurses := true, plainKeys := false, apart := false }
def PlanOrdersSaid : Prop := planOrdersRow.holds Try.pinned (OpenSpec.ofChange planOrdersSpec)

/-- ITS FALSE NEIGHBOUR: 'it returns false'. Refute it at one input. -/
def planOrdersWrong : ChangeSpec := { name := "planOrders", fn := fun _ => fun
  | [d1, d2, d3] => { results := [.lit (.bool false)], args := [d1, d2, d3] }
  | _ => none }
def PlanOrdersWrongFalsely : Prop := planOrdersRow.holds Try.pinned (OpenSpec.ofChange planOrdersWrong)

/-- 'catnaplaw17.PlanApplies': WHATEVER THE INPUT: true; the input reads as it did. -/
def planAppliesSpec : ChangeSpec := { name := "planApplies", fn := fun _ => fun
  | [d1, d2, d3] => { results := [.lit (.bool true)], args := [d1, d2, d3] }
  | _ => none }
def planAppliesRow : OpenClaim := { program := "ytbgibbbggajgaaa", sum := "497674dfc4e336a834c8a6ae87efc45be37f8a52687b92af2b943d35aac68ef8", func := "catnap/catnaplaw17.PlanApplies", spec := "planApplies", unfollowed := true, recurses := true, plainKeys := false, apart := false }
def PlanAppliesSaid : Prop := planAppliesRow.holds Try.pinned (OpenSpec.ofChange planAppliesSpec)

/-- ITS FALSE NEIGHBOUR: 'it returns false'. Refute it at one input. -/
def planAppliesWrong : ChangeSpec := { name := "planApplies", fn := fun _ => fun
  | [d1, d2, d3] => { results := [.lit (.bool false)], args := [d1, d2, d3] }
  | _ => none }
def PlanAppliesWrongFalsely : Prop := planAppliesRow.holds Try.pinned (OpenSpec.ofChange planAppliesWrong)

/-- 'catnaplaw17.PlanBack': WHATEVER THE INPUT: true; the input reads as it did. -/
def planBackSpec : ChangeSpec := { name := "planBack", fn := fun _ => fun
  | [d1, d2, d3] => { results := [.lit (.bool true)], args := [d1, d2, d3] }
  | _ => none }
def planBackRow : OpenClaim := { program := "ytbgibbbggajgaaa", sum := "497674dfc4e336a834c8a6ae87efc45be37f8a52687b92af2b943d35aac68ef8", func := "catnap/catnaplaw17.PlanBack", spec := "planBack", unfollowed := true, recurses := true, plainKeys := false, apart := false }
def PlanBackSaid : Prop := planBackRow.holds Try.pinned (OpenSpec.ofChange planBackSpec)

/-- ITS FALSE NEIGHBOUR: 'it returns false'. Refute it at one input. -/
def planBackWrong : ChangeSpec := { name := "planBack", fn := fun _ => fun
  | [d1, d2, d3] => { results := [.lit (.bool false)], args := [d1, d2, d3] }
  | _ => none }
def PlanBackWrongFalsely : Prop := planBackRow.holds Try.pinned (OpenSpec.ofChange planBackWrong)

/-- 'catnaplaw17.PlanWants': WHATEVER THE INPUT: true; the input reads as it did. -/
def planWantsSpec : ChangeSpec := { name := "planWants", fn := fun _ => fun
  | [d1, d2, d3] => { results := [.lit (.bool true)], args := [d1, d2, d3] }
  | _ => none }
def planWantsRow : OpenClaim := { program := "ytbgibbbggajgaaa", sum := "497674dfc4e336a834c8a6ae87efc45be37f8a52687b92af2b943d35aac68ef8", func := "catnap/catnaplaw17.PlanWants", spec := "planWants", unfollowed := true, recurses := true, plainKeys := false, apart := false }
def PlanWantsSaid : Prop := planWantsRow.holds Try.pinned (OpenSpec.ofChange planWantsSpec)

/-- ITS FALSE NEIGHBOUR: 'it returns false'. Refute it at one input. -/
def planWantsWrong : ChangeSpec := { name := "planWants", fn := fun _ => fun
  | [d1, d2, d3] => { results := [.lit (.bool false)], args := [d1, d2, d3] }
  | _ => none }
def PlanWantsWrongFalsely : Prop := planWantsRow.holds Try.pinned (OpenSpec.ofChange planWantsWrong)

/-- 'catnaplaw20.AuditFronts': WHATEVER THE INPUT: true; the input reads as it did. -/
def auditFrontsSpec : ChangeSpec := { name := "auditFronts", fn := fun _ => fun
  | [d1, d2, d3] => { results := [.lit (.bool true)], args := [d1, d2, d3] }
  | _ => none }
def auditFrontsRow : OpenClaim := { program := "ytbgibbbggajgaaa", sum := "497674dfc4e336a834c8a6ae87efc45be37f8a52687b92af2b943d35aac68ef8", func := "catnap/catnaplaw20.AuditFronts", spec := "auditFronts", unfollowed := true, recurses := true, plainKeys := false, apart := false }
def AuditFrontsSaid : Prop := auditFrontsRow.holds Try.pinned (OpenSpec.ofChange auditFrontsSpec)

/-- ITS FALSE NEIGHBOUR: 'it returns false'. Refute it at one input. -/
def auditFrontsWrong : ChangeSpec := { name := "auditFronts", fn := fun _ => fun
  | [d1, d2, d3] => { results := [.lit (.bool false)], args := [d1, d2, d3] }
  | _ => none }
def AuditFrontsWrongFalsely : Prop := auditFrontsRow.holds Try.pinned (OpenSpec.ofChange auditFrontsWrong)

/-- 'catnaplaw20.AuditKinds': WHATEVER THE INPUT: true; the input reads as it did. -/
def auditKindsSpec : ChangeSpec := { name := "auditKinds", fn := fun _ => fun
  | [d1, d2, d3] => { results := [.lit (.bool true)], args := [d1, d2, d3] }
  | _ => none }
def auditKindsRow : OpenClaim := { program := "ytbgibbbggajgaaa", sum := "497674dfc4e336a834c8a6ae87efc45be37f8a52687b92af2b943d35aac68ef8", func := "catnap/catnaplaw20.AuditKinds", spec := "auditKinds", unfollowed := true, recurses := true, plainKeys := false, apart := false }
def AuditKindsSaid : Prop := auditKindsRow.holds Try.pinned (OpenSpec.ofChange auditKindsSpec)

/-- ITS FALSE NEIGHBOUR: 'it returns false'. Refute it at one input. -/
def auditKindsWrong : ChangeSpec := { name := "auditKinds", fn := fun _ => fun
  | [d1, d2, d3] => { results := [.lit (.bool false)], args := [d1, d2, d3] }
  | _ => none }
def AuditKindsWrongFalsely : Prop := auditKindsRow.holds Try.pinned (OpenSpec.ofChange auditKindsWrong)

/-- 'catnaplaw17.PlanGoes': WHATEVER THE INPUT: true; the input reads as it did. -/
def planGoesSpec : ChangeSpec := { name := "planGoes", fn := fun _ => fun
  | [d1, d2, d3] => { results := [.lit (.bool true)], args := [d1, d2, d3] }
  | _ => none }
def planGoesRow : OpenClaim := { program := "ytbgibbbggajgaaa", sum := "497674dfc4e336a834c8a6ae87efc45be37f8a52687b92af2b943d35aac68ef8", func := "catnap/catnaplaw17.PlanGoes", spec := "planGoes", unfollowed := true, recurses := true, plainKeys := false, apart := false }
def PlanGoesSaid : Prop := planGoesRow.holds Try.pinned (OpenSpec.ofChange planGoesSpec)

/-- ITS FALSE NEIGHBOUR: 'it returns false'. Refute it at one input. -/
def planGoesWrong : ChangeSpec := { name := "planGoes", fn := fun _ => fun
  | [d1, d2, d3] => { results := [.lit (.bool false)], args := [d1, d2, d3] }
  | _ => none }
def PlanGoesWrongFalsely : Prop := planGoesRow.holds Try.pinned (OpenSpec.ofChange planGoesWrong)

/- THE SECOND FORM. 'bulk': how many values and letters a reading holds, each counted each time it is reached (what is shared counts as often as it is met; a slice's spare places count too). A statement '..UptoSaid' is the law's where the arguments, and the package variables that the reading takes, are together of bulk at most 1048576: NARROWER than '..Said'. Prove '..Said' where nothing that the law and all that it calls make is longer than what came in: it says more and counts as full. Else prove '..UptoSaid'. A law counts once. -/
mutual
def uptoBulk {H : Type} : DataW H → Nat
  | .lit (.string bytes) => bytes.length + 1
  | .lit _ => 1
  | .nil => 1
  | .ptr d => uptoBulk d + 1
  | .slice elems spare => uptoBulkAll elems + uptoBulkAll spare + 1
  | .agg parts => uptoBulkAll parts + 1
  | .iface _ d => uptoBulk d + 1
  | .map entries => uptoBulkEntries entries + 1
  | .held _ => 1
def uptoBulkAll {H : Type} : List (DataW H) → Nat
  | [] => 0
  | d :: r => uptoBulk d + uptoBulkAll r
def uptoBulkEntries {H : Type} : List (Lit × DataW H) → Nat
  | [] => 0
  | x :: r => uptoBulkEntry x + uptoBulkEntries r
def uptoBulkEntry {H : Type} : Lit × DataW H → Nat
  | (.string bytes, d) => bytes.length + uptoBulk d + 1
  | (_, d) => uptoBulk d + 1
 end
def uptoSmall : (H : Type) → List (DataW H) → Bool := fun _ ds => decide (uptoBulkAll ds ≤ 1048576)
def OpenSpec.upto (s : _root_.Go.ChangeSpec) : _root_.Go.OpenSpec := { _root_.Go.OpenSpec.ofChange s with cond := some uptoSmall }

/-- 'catnaplaw20.AuditAdds', WHERE WHAT IT READS IS OF BULK AT MOST 1048576: true; the input reads as it did. -/
def auditAddsUptoRow : OpenClaim := { program := "ytbgibbbggajgaaa", sum := "497674dfc4e336a834c8a6ae87efc45be37f8a52687b92af2b943d35aac68ef8", func := "catnap/catnaplaw20.AuditAdds", spec := "auditAdds", unfollowed := true, recurses := true, plainKeys := false, apart := false, narrowed := true }
def AuditAddsUptoSaid : Prop := auditAddsUptoRow.holds Try.pinned (OpenSpec.upto auditAddsSpec)

/-- 'catnaplaw20.AuditOpens', WHERE WHAT IT READS IS OF BULK AT MOST 1048576: true; the input reads as it did. -/
def auditOpensUptoRow : OpenClaim := { program := "ytbgibbbggajgaaa", sum := "497674dfc4e336a834c8a6ae87efc45be37f8a52687b92af2b943d35aac68ef8", func := "catnap/catnaplaw20.AuditOpens", spec := "auditOpens", unfollowed := true, recurses := true, plainKeys := false, apart := false, narrowed := true }
def AuditOpensUptoSaid : Prop := auditOpensUptoRow.holds Try.pinned (OpenSpec.upto auditOpensSpec)

/-- 'catnaplaw17.PlanOrders', WHERE WHAT IT READS IS OF BULK AT MOST 1048576: true; the input reads as it did. -/
def planOrdersUptoRow : OpenClaim := { program := "ytbgibbbggajgaaa", sum := "497674dfc4e336a834c8a6ae87efc45be37f8a52687b92af2b943d35aac68ef8", func := "catnap/catnaplaw17.PlanOrders", spec := "planOrders", unfollowed := true, recurses := true, plainKeys := false, apart := false, narrowed := true }
def PlanOrdersUptoSaid : Prop := planOrdersUptoRow.holds Try.pinned (OpenSpec.upto planOrdersSpec)

/-- 'catnaplaw17.PlanApplies', WHERE WHAT IT READS IS OF BULK AT MOST 1048576: true; the input reads as it did. -/
def planAppliesUptoRow : OpenClaim := { program := "ytbgibbbggajgaaa", sum := "497674dfc4e336a834c8a6ae87efc45be37f8a52687b92af2b943d35aac68ef8", func := "catnap/catnaplaw17.PlanApplies", spec := "planApplies", unfollowed := true, recurses := true, plainKeys := false, apart := false, narrowed := true }
def PlanAppliesUptoSaid : Prop := planAppliesUptoRow.holds Try.pinned (OpenSpec.upto planAppliesSpec)

/-- 'catnaplaw17.PlanBack', WHERE WHAT IT READS IS OF BULK AT MOST 1048576: true; the input reads as it did. -/
def planBackUptoRow : OpenClaim := { program := "ytbgibbbggajgaaa", sum := "497674dfc4e336a834c8a6ae87efc45be37f8a52687b92af2b943d35aac68ef8", func := "catnap/catnaplaw17.PlanBack", spec := "planBack", unfollowed := true, recurses := true, plainKeys := false, apart := false, narrowed := true }
def PlanBackUptoSaid : Prop := planBackUptoRow.holds Try.pinned (OpenSpec.upto planBackSpec)

/-- 'catnaplaw17.PlanWants', WHERE WHAT IT READS IS OF BULK AT MOST 1048576: true; the input reads as it did. -/
def planWantsUptoRow : OpenClaim := { program := "ytbgibbbggajgaaa", sum := "497674dfc4e336a834c8a6ae87efc45be37f8a52687b92af2b943d35aac68ef8", func := "catnap/catnaplaw17.PlanWants", spec := "planWants", unfollowed := true, recurses := true, plainKeys := false, apart := false, narrowed := true }
def PlanWantsUptoSaid : Prop := planWantsUptoRow.holds Try.pinned (OpenSpec.upto planWantsSpec)

/-- 'catnaplaw20.AuditFronts', WHERE WHAT IT READS IS OF BULK AT MOST 1048576: true; the input reads as it did. -/
def auditFrontsUptoRow : OpenClaim := { program := "ytbgibbbggajgaaa", sum := "497674dfc4e336a834c8a6ae87efc45be37f8a52687b92af2b943d35aac68ef8", func := "catnap/catnaplaw20.AuditFronts", spec := "auditFronts", unfollowed := true, recurses := true, plainKeys := false, apart := false, narrowed := true }
def AuditFrontsUptoSaid : Prop := auditFrontsUptoRow.holds Try.pinned (OpenSpec.upto auditFrontsSpec)

/-- 'catnaplaw20.AuditKinds', WHERE WHAT IT READS IS OF BULK AT MOST 1048576: true; the input reads as it did. -/
def auditKindsUptoRow : OpenClaim := { program := "ytbgibbbggajgaaa", sum := "497674dfc4e336a834c8a6ae87efc45be37f8a52687b92af2b943d35aac68ef8", func := "catnap/catnaplaw20.AuditKinds", spec := "auditKinds", unfollowed := true, recurses := true, plainKeys := false, apart := false, narrowed := true }
def AuditKindsUptoSaid : Prop := auditKindsUptoRow.holds Try.pinned (OpenSpec.upto auditKindsSpec)

/-- 'catnaplaw17.PlanGoes', WHERE WHAT IT READS IS OF BULK AT MOST 1048576: true; the input reads as it did. -/
def planGoesUptoRow : OpenClaim := { program := "ytbgibbbggajgaaa", sum := "497674dfc4e336a834c8a6ae87efc45be37f8a52687b92af2b943d35aac68ef8", func := "catnap/catnaplaw17.PlanGoes", spec := "planGoes", unfollowed := true, recurses := true, plainKeys := false, apart := false, narrowed := true }
def PlanGoesUptoSaid : Prop := planGoesUptoRow.holds Try.pinned (OpenSpec.upto planGoesSpec)

end Rows
end Go.Proofs.Ytbgibbbggajgaaa
