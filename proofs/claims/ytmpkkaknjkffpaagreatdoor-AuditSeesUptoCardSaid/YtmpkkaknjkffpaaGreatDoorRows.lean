/-
  NARROWER THAN 'FOR EVERY INPUT', by the rows' own cells (each row's printed sentence says how): WorldEnds: laid · AuditSees: laid.
  DERIVED. THE GIVEN ROWS OF THIS SEAT. 2 by the template 'for every input the law returns true; each argument reads behind the call as it read before'; 0 by the template 'total and deterministic' (their statements: YtmpkkaknjkffpaaGreatDoorTotals.lean).
  GIVEN WITH THE SEED: the statements are not yours to turn. If you find one false, say at which input.
  Laid BY PROGRAM, IN A SANDBOX (cutbox-rows.mjs): the forced cells as the released guide's own fill.sh prints them over the translation 653e95268c6e74f2… (all of the seat's roots in one cut). By AI agents, Wed Nov 11 2026. No macro, syntax, notation, axiom, sorry.
-/
import Derived.Test.YtmpkkaknjkffpaaGreatDoorChecked
import GoSem.Claim
import GoSem.ClaimJoined
import GoSem.ClaimMapViews
import Derived.JoinedTies
import Derived.KernelRfl
namespace Go.Proofs.YtmpkkaknjkffpaaGreatDoor
/- THE CELL 'sum', in the pinned program and in every row, IS THE sha256 OF THE DUMP (.gsa) THAT YtmpkkaknjkffpaaGreatDoorProg.lean LOADS. Nothing in Lean hashes anything: it is a label: what it is worth is what the hold of that sum in a sandbox is worth. -/
noncomputable def Tryz.pinned : Pinned := { name := "ytmpkkaknjkffpaagreatdoor", sum := "653e95268c6e74f2f5fae68942e068fe29057281bbc2d433a864e9ee463746cc", checked := Tryz.checked }
namespace Rows
def none {H : Type} : Left H := { results := [], args := [] }

/- WHAT THE LISTED PACKAGE-LEVEL VARIABLES READ AS WHEN THE CALL BEGINS. Each datum BY PROGRAM (the guide's laid-datum.mjs) off the statement by which the dump's own 'gosem.cut.vars' lays the variable. In a bare row this is a premise. The card (YtmpkkaknjkffpaaGreatDoorCards.lean) ties it to the program's text. -/
def laid_catnap_quiet_letters {H : Type} : DataW H := .agg [.lit (.int .u8 114), .lit (.int .u8 97), .lit (.int .u8 115), .lit (.int .u8 100)]

/-- 'catnaplaw19.WorldEnds': WHATEVER THE INPUT: true; the input reads as it did. -/
def worldEndsSpec : ChangeSpec := { name := "worldEnds", fn := fun _ => fun
  | [d1, d2, d3] => { results := [.lit (.bool true)], args := [d1, d2, d3] }
  | _ => none }
def worldEndsRow : OpenClaim := { program := "ytmpkkaknjkffpaagreatdoor", sum := "653e95268c6e74f2f5fae68942e068fe29057281bbc2d433a864e9ee463746cc", func := "catnap/catnaplaw19.WorldEnds", spec := "worldEnds", unfollowed := true, recurses := true, named := ["catnap/quiet.letters"], plainKeys := false, apart := false, laid := [("catnap/quiet.letters", laid_catnap_quiet_letters)] }
def WorldEndsSaid : Prop := worldEndsRow.holds Tryz.pinned (OpenSpec.ofChange worldEndsSpec)

/-- ITS FALSE NEIGHBOUR: 'it returns false'. Refute it at one input. -/
def worldEndsWrong : ChangeSpec := { name := "worldEnds", fn := fun _ => fun
  | [d1, d2, d3] => { results := [.lit (.bool false)], args := [d1, d2, d3] }
  | _ => none }
def WorldEndsWrongFalsely : Prop := worldEndsRow.holds Tryz.pinned (OpenSpec.ofChange worldEndsWrong)

/-- 'catnaplaw20.AuditSees': WHATEVER THE INPUT: true; the input reads as it did. -/
def auditSeesSpec : ChangeSpec := { name := "auditSees", fn := fun _ => fun
  | [d1, d2, d3] => { results := [.lit (.bool true)], args := [d1, d2, d3] }
  | _ => none }
def auditSeesRow : OpenClaim := { program := "ytmpkkaknjkffpaagreatdoor", sum := "653e95268c6e74f2f5fae68942e068fe29057281bbc2d433a864e9ee463746cc", func := "catnap/catnaplaw20.AuditSees", spec := "auditSees", unfollowed := true, recurses := true, named := ["catnap/quiet.letters"], plainKeys := false, apart := false, laid := [("catnap/quiet.letters", laid_catnap_quiet_letters)] }
def AuditSeesSaid : Prop := auditSeesRow.holds Tryz.pinned (OpenSpec.ofChange auditSeesSpec)

/-- ITS FALSE NEIGHBOUR: 'it returns false'. Refute it at one input. -/
def auditSeesWrong : ChangeSpec := { name := "auditSees", fn := fun _ => fun
  | [d1, d2, d3] => { results := [.lit (.bool false)], args := [d1, d2, d3] }
  | _ => none }
def AuditSeesWrongFalsely : Prop := auditSeesRow.holds Tryz.pinned (OpenSpec.ofChange auditSeesWrong)

/- THE SECOND FORM. 'bulk': how many values and letters a reading holds, each counted each time it is reached (what is shared counts as often as it is met; a slice's spare places count too). A statement '..UptoSaid' is the law's where the arguments, and the package variables that the reading takes, are together of bulk at most 1048576: NARROWER than '..Said'. Prove '..Said' where nothing that the law and all that it calls make is longer than what came in: it says more and counts as full. Else prove '..UptoSaid'. A law counts once. -/
mutual
def uptoBulk {H : Type} : DataW H → Nat
  | .lit (.string bytes) => bytes.length + 1
  | .lit _ => 1
  | .nil => 1
  | .ptr d => uptoBulk d + 1
  | .slice elems spare => uptoBulkAll elems + uptoBulkAll spare + 1
  | .agg parts => uptoBulkAll parts + 1
  | .iface _ d => uptoBulk d + 1
  | .map entries => uptoBulkEntries entries + 1
  | .held _ => 1
def uptoBulkAll {H : Type} : List (DataW H) → Nat
  | [] => 0
  | d :: r => uptoBulk d + uptoBulkAll r
def uptoBulkEntries {H : Type} : List (Lit × DataW H) → Nat
  | [] => 0
  | x :: r => uptoBulkEntry x + uptoBulkEntries r
def uptoBulkEntry {H : Type} : Lit × DataW H → Nat
  | (.string bytes, d) => bytes.length + uptoBulk d + 1
  | (_, d) => uptoBulk d + 1
 end
def uptoSmall : (H : Type) → List (DataW H) → Bool := fun _ ds => decide (uptoBulkAll ds ≤ 1048576)
def OpenSpec.upto (s : _root_.Go.ChangeSpec) : _root_.Go.OpenSpec := { _root_.Go.OpenSpec.ofChange s with cond := some uptoSmall }

/-- 'catnaplaw19.WorldEnds', WHERE WHAT IT READS IS OF BULK AT MOST 1048576: true; the input reads as it did. -/
def worldEndsUptoRow : OpenClaim := { program := "ytmpkkaknjkffpaagreatdoor", sum := "653e95268c6e74f2f5fae68942e068fe29057281bbc2d433a864e9ee463746cc", func := "catnap/catnaplaw19.WorldEnds", spec := "worldEnds", unfollowed := true, recurses := true, named := ["catnap/quiet.letters"], plainKeys := false, apart := false, laid := [("catnap/quiet.letters", laid_catnap_quiet_letters)], narrowed := true }
def WorldEndsUptoSaid : Prop := worldEndsUptoRow.holds Tryz.pinned (OpenSpec.upto worldEndsSpec)

/-- 'catnaplaw20.AuditSees', WHERE WHAT IT READS IS OF BULK AT MOST 1048576: true; the input reads as it did. -/
def auditSeesUptoRow : OpenClaim := { program := "ytmpkkaknjkffpaagreatdoor", sum := "653e95268c6e74f2f5fae68942e068fe29057281bbc2d433a864e9ee463746cc", func := "catnap/catnaplaw20.AuditSees", spec := "auditSees", unfollowed := true, recurses := true, named := ["catnap/quiet.letters"], plainKeys := false, apart := false, laid := [("catnap/quiet.letters", laid_catnap_quiet_letters)], narrowed := true }
def AuditSeesUptoSaid : Prop := auditSeesUptoRow.holds Tryz.pinned (OpenSpec.upto auditSeesSpec)

end Rows
end Go.Proofs.YtmpkkaknjkffpaaGreatDoor
