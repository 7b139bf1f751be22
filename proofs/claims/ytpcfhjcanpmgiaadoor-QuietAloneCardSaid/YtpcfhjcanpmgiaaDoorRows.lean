/-
  NARROWER THAN 'FOR EVERY INPUT', by the rows' own cells (each row's printed sentence says how): QuietAlone: laid · QuietLeaves: laid.
  DERIVED. THE GIVEN ROWS OF THIS SEAT. 2 by the template 'for every input the law returns true; each argument reads behind the call as it read before'; 0 by the template 'total and deterministic' (their statements: YtpcfhjcanpmgiaaDoorTotals.lean).
  GIVEN WITH THE SEED: the statements are not yours to turn. If you find one false, say at which input.
  Laid BY PROGRAM, IN A SANDBOX (cutbox-rows.mjs): the forced cells as the released guide's own fill.sh prints them over the translation 2b1887cbdf1a8549… (all of the seat's roots in one cut). By AI agents, Wed Nov 11 2026. No macro, syntax, notation, axiom, sorry.
-/
import Derived.Test.YtpcfhjcanpmgiaaDoorChecked
import GoSem.Claim
import GoSem.ClaimJoined
import GoSem.ClaimMapViews
import Derived.JoinedTies
import Derived.KernelRfl
namespace Go.Proofs.YtpcfhjcanpmgiaaDoor
/- THE CELL 'sum', in the pinned program and in every row, IS THE sha256 OF THE DUMP (.gsa) THAT YtpcfhjcanpmgiaaDoorProg.lean LOADS. Nothing in Lean hashes anything: it is a label: what it is worth is what the hold of that sum in a sandbox is worth. -/
noncomputable def Tryd.pinned : Pinned := { name := "ytpcfhjcanpmgiaadoor", sum := "2b1887cbdf1a8549e32f2d6005627ec5d53c3990d56437f073cedbefbdfbf643", checked := Tryd.checked }
namespace Rows
def none {H : Type} : Left H := { results := [], args := [] }

/- WHAT THE LISTED PACKAGE-LEVEL VARIABLES READ AS WHEN THE CALL BEGINS. Each datum BY PROGRAM (the guide's laid-datum.mjs) off the statement by which the dump's own 'gosem.cut.vars' lays the variable. In a bare row this is a premise. The card (YtpcfhjcanpmgiaaDoorCards.lean) ties it to the program's text. -/
def laid_catnap_quiet_letters {H : Type} : DataW H := .agg [.lit (.int .u8 114), .lit (.int .u8 97), .lit (.int .u8 115), .lit (.int .u8 100)]

/-- 'catnaplaw10.QuietAlone': WHATEVER THE INPUT: true; the input reads as it did. -/
def quietAloneSpec : ChangeSpec := { name := "quietAlone", fn := fun _ => fun
  | [d1, d2] => { results := [.lit (.bool true)], args := [d1, d2] }
  | _ => none }
def quietAloneRow : OpenClaim := { program := "ytpcfhjcanpmgiaadoor", sum := "2b1887cbdf1a8549e32f2d6005627ec5d53c3990d56437f073cedbefbdfbf643", func := "catnap/catnaplaw10.QuietAlone", spec := "quietAlone", named := ["catnap/quiet.letters"], apart := false, laid := [("catnap/quiet.letters", laid_catnap_quiet_letters)] }
def QuietAloneSaid : Prop := quietAloneRow.holds Tryd.pinned (OpenSpec.ofChange quietAloneSpec)

/-- ITS FALSE NEIGHBOUR: 'it returns false'. Refute it at one input. -/
def quietAloneWrong : ChangeSpec := { name := "quietAlone", fn := fun _ => fun
  | [d1, d2] => { results := [.lit (.bool false)], args := [d1, d2] }
  | _ => none }
def QuietAloneWrongFalsely : Prop := quietAloneRow.holds Tryd.pinned (OpenSpec.ofChange quietAloneWrong)

/-- 'catnaplaw10.QuietLeaves': WHATEVER THE INPUT: true; the input reads as it did. -/
def quietLeavesSpec : ChangeSpec := { name := "quietLeaves", fn := fun _ => fun
  | [d1, d2] => { results := [.lit (.bool true)], args := [d1, d2] }
  | _ => none }
def quietLeavesRow : OpenClaim := { program := "ytpcfhjcanpmgiaadoor", sum := "2b1887cbdf1a8549e32f2d6005627ec5d53c3990d56437f073cedbefbdfbf643", func := "catnap/catnaplaw10.QuietLeaves", spec := "quietLeaves", named := ["catnap/quiet.letters"], apart := false, laid := [("catnap/quiet.letters", laid_catnap_quiet_letters)] }
def QuietLeavesSaid : Prop := quietLeavesRow.holds Tryd.pinned (OpenSpec.ofChange quietLeavesSpec)

/-- ITS FALSE NEIGHBOUR: 'it returns false'. Refute it at one input. -/
def quietLeavesWrong : ChangeSpec := { name := "quietLeaves", fn := fun _ => fun
  | [d1, d2] => { results := [.lit (.bool false)], args := [d1, d2] }
  | _ => none }
def QuietLeavesWrongFalsely : Prop := quietLeavesRow.holds Tryd.pinned (OpenSpec.ofChange quietLeavesWrong)

/- THE SECOND FORM. 'bulk': how many values and letters a reading holds, each counted each time it is reached (what is shared counts as often as it is met; a slice's spare places count too). A statement '..UptoSaid' is the law's where the arguments, and the package variables that the reading takes, are together of bulk at most 1048576: NARROWER than '..Said'. Prove '..Said' where nothing that the law and all that it calls make is longer than what came in: it says more and counts as full. Else prove '..UptoSaid'. A law counts once. -/
mutual
def uptoBulk {H : Type} : DataW H → Nat
  | .lit (.string bytes) => bytes.length + 1
  | .lit _ => 1
  | .nil => 1
  | .ptr d => uptoBulk d + 1
  | .slice elems spare => uptoBulkAll elems + uptoBulkAll spare + 1
  | .agg parts => uptoBulkAll parts + 1
  | .iface _ d => uptoBulk d + 1
  | .map entries => uptoBulkEntries entries + 1
  | .held _ => 1
def uptoBulkAll {H : Type} : List (DataW H) → Nat
  | [] => 0
  | d :: r => uptoBulk d + uptoBulkAll r
def uptoBulkEntries {H : Type} : List (Lit × DataW H) → Nat
  | [] => 0
  | x :: r => uptoBulkEntry x + uptoBulkEntries r
def uptoBulkEntry {H : Type} : Lit × DataW H → Nat
  | (.string bytes, d) => bytes.length + uptoBulk d + 1
  | (_, d) => uptoBulk d + 1
 end
def uptoSmall : (H : Type) → List (DataW H) → Bool := fun _ ds => decide (uptoBulkAll ds ≤ 1048576)
def OpenSpec.upto (s : _root_.Go.ChangeSpec) : _root_.Go.OpenSpec := { _root_.Go.OpenSpec.ofChange s with cond := some uptoSmall }

/-- 'catnaplaw10.QuietAlone', WHERE WHAT IT READS IS OF BULK AT MOST 1048576: true; the input reads as it did. -/
def quietAloneUptoRow : OpenClaim := { program := "ytpcfhjcanpmgiaadoor", sum := "2b1887cbdf1a8549e32f2d6005627ec5d53c3990d56437f073cedbefbdfbf643", func := "catnap/catnaplaw10.QuietAlone", spec := "quietAlone", named := ["catnap/quiet.letters"], apart := false, laid := [("catnap/quiet.letters", laid_catnap_quiet_letters)], narrowed := true }
def QuietAloneUptoSaid : Prop := quietAloneUptoRow.holds Tryd.pinned (OpenSpec.upto quietAloneSpec)

/-- 'catnaplaw10.QuietLeaves', WHERE WHAT IT READS IS OF BULK AT MOST 1048576: true; the input reads as it did. -/
def quietLeavesUptoRow : OpenClaim := { program := "ytpcfhjcanpmgiaadoor", sum := "2b1887cbdf1a8549e32f2d6005627ec5d53c3990d56437f073cedbefbdfbf643", func := "catnap/catnaplaw10.QuietLeaves", spec := "quietLeaves", named := ["catnap/quiet.letters"], apart := false, laid := [("catnap/quiet.letters", laid_catnap_quiet_letters)], narrowed := true }
def QuietLeavesUptoSaid : Prop := quietLeavesUptoRow.holds Tryd.pinned (OpenSpec.upto quietLeavesSpec)

end Rows
end Go.Proofs.YtpcfhjcanpmgiaaDoor
