/-
  NARROWER THAN 'FOR EVERY INPUT', by the rows' own cells (each row's printed sentence says how): WorldReplies: laid · WorldNests: laid · WorldRounds: laid · WorldTwice: laid · WorldEnds: laid.
  DERIVED. THE GIVEN ROWS OF THIS SEAT. 5 by the template 'for every input the law returns true; each argument reads behind the call as it read before'; 0 by the template 'total and deterministic' (their statements: YtkgekojkboingaaGreatDoorTotals.lean).
  GIVEN WITH THE SEED: the statements are not yours to turn. If you find one false, say at which input.
  Laid BY PROGRAM, IN A SANDBOX (cutbox-rows.mjs): the forced cells as the released guide's own fill.sh prints them over the translation 9c68f11f185429a0… (all of the seat's roots in one cut). By AI agents, Wed Nov 11 2026. No macro, syntax, notation, axiom, sorry.
-/
import Derived.Test.YtkgekojkboingaaGreatDoorChecked
import GoSem.Claim
import GoSem.ClaimJoined
import GoSem.ClaimMapViews
import Derived.JoinedTies
import Derived.KernelRfl
namespace Go.Proofs.YtkgekojkboingaaGreatDoor
/- THE CELL 'sum', in the pinned program and in every row, IS THE sha256 OF THE DUMP (.gsa) THAT YtkgekojkboingaaGreatDoorProg.lean LOADS. Nothing in Lean hashes anything: it is a label: what it is worth is what the hold of that sum in a sandbox is worth. -/
noncomputable def Tryz.pinned : Pinned := { name := "ytkgekojkboingaagreatdoor", sum := "9c68f11f185429a0d769bfaa7115c326c8bc6a03de34edb707f90e1718fe5b71", checked := Tryz.checked }
namespace Rows
def none {H : Type} : Left H := { results := [], args := [] }

/- WHAT THE LISTED PACKAGE-LEVEL VARIABLES READ AS WHEN THE CALL BEGINS. Each datum BY PROGRAM (the guide's laid-datum.mjs) off the statement by which the dump's own 'gosem.cut.vars' lays the variable. In a bare row this is a premise. The card (YtkgekojkboingaaGreatDoorCards.lean) ties it to the program's text. -/
def laid_catnap_quiet_letters {H : Type} : DataW H := .agg [.lit (.int .u8 114), .lit (.int .u8 97), .lit (.int .u8 115), .lit (.int .u8 100)]

/-- 'catnaplaw19.WorldReplies': WHATEVER THE INPUT: true; the input reads as it did. -/
def worldRepliesSpec : ChangeSpec := { name := "worldReplies", fn := fun _ => fun
  | [d1, d2] => { results := [.lit (.bool true)], args := [d1, d2] }
  | _ => none }
def worldRepliesRow : OpenClaim := { program := "ytkgekojkboingaagreatdoor", sum := "9c68f11f185429a0d769bfaa7115c326c8bc6a03de34edb707f90e1718fe5b71", func := "catnap/catnaplaw19.WorldReplies", spec := "worldReplies", unfollowed := true, recurses := true, named := ["catnap/quiet.letters"], plainKeys := false, apart := false, laid := [("catnap/quiet.letters", laid_catnap_quiet_letters)] }
def WorldRepliesSaid : Prop := worldRepliesRow.holds Tryz.pinned (OpenSpec.ofChange worldRepliesSpec)

/-- ITS FALSE NEIGHBOUR: 'it returns false'. Refute it at one input. -/
def worldRepliesWrong : ChangeSpec := { name := "worldReplies", fn := fun _ => fun
  | [d1, d2] => { results := [.lit (.bool false)], args := [d1, d2] }
  | _ => none }
def WorldRepliesWrongFalsely : Prop := worldRepliesRow.holds Tryz.pinned (OpenSpec.ofChange worldRepliesWrong)

/-- 'catnaplaw19.WorldNests': WHATEVER THE INPUT: true; the input reads as it did. -/
def worldNestsSpec : ChangeSpec := { name := "worldNests", fn := fun _ => fun
  | [d1, d2] => { results := [.lit (.bool true)], args := [d1, d2] }
  | _ => none }
def worldNestsRow : OpenClaim := { program := "ytkgekojkboingaagreatdoor", sum := "9c68f11f185429a0d769bfaa7115c326c8bc6a03de34edb707f90e1718fe5b71", func := "catnap/catnaplaw19.WorldNests", spec := "worldNests", unfollowed := true, recurses := true, named := ["catnap/quiet.letters"], plainKeys := false, apart := false, laid := [("catnap/quiet.letters", laid_catnap_quiet_letters)] }
def WorldNestsSaid : Prop := worldNestsRow.holds Tryz.pinned (OpenSpec.ofChange worldNestsSpec)

/-- ITS FALSE NEIGHBOUR: 'it returns false'. Refute it at one input. -/
def worldNestsWrong : ChangeSpec := { name := "worldNests", fn := fun _ => fun
  | [d1, d2] => { results := [.lit (.bool false)], args := [d1, d2] }
  | _ => none }
def WorldNestsWrongFalsely : Prop := worldNestsRow.holds Tryz.pinned (OpenSpec.ofChange worldNestsWrong)

/-- 'catnaplaw19.WorldRounds': WHATEVER THE INPUT: true; the input reads as it did. -/
def worldRoundsSpec : ChangeSpec := { name := "worldRounds", fn := fun _ => fun
  | [d1, d2, d3, d4] => { results := [.lit (.bool true)], args := [d1, d2, d3, d4] }
  | _ => none }
def worldRoundsRow : OpenClaim := { program := "ytkgekojkboingaagreatdoor", sum := "9c68f11f185429a0d769bfaa7115c326c8bc6a03de34edb707f90e1718fe5b71", func := "catnap/catnaplaw19.WorldRounds", spec := "worldRounds", unfollowed := true, recurses := true, named := ["catnap/quiet.letters"], plainKeys := false, apart := false, laid := [("catnap/quiet.letters", laid_catnap_quiet_letters)] }
def WorldRoundsSaid : Prop := worldRoundsRow.holds Tryz.pinned (OpenSpec.ofChange worldRoundsSpec)

/-- ITS FALSE NEIGHBOUR: 'it returns false'. Refute it at one input. -/
def worldRoundsWrong : ChangeSpec := { name := "worldRounds", fn := fun _ => fun
  | [d1, d2, d3, d4] => { results := [.lit (.bool false)], args := [d1, d2, d3, d4] }
  | _ => none }
def WorldRoundsWrongFalsely : Prop := worldRoundsRow.holds Tryz.pinned (OpenSpec.ofChange worldRoundsWrong)

/-- 'catnaplaw19.WorldTwice': WHATEVER THE INPUT: true; the input reads as it did. -/
def worldTwiceSpec : ChangeSpec := { name := "worldTwice", fn := fun _ => fun
  | [d1, d2, d3] => { results := [.lit (.bool true)], args := [d1, d2, d3] }
  | _ => none }
def worldTwiceRow : OpenClaim := { program := "ytkgekojkboingaagreatdoor", sum := "9c68f11f185429a0d769bfaa7115c326c8bc6a03de34edb707f90e1718fe5b71", func := "catnap/catnaplaw19.WorldTwice", spec := "worldTwice", unfollowed := true, recurses := true, named := ["catnap/quiet.letters"], plainKeys := false, apart := false, laid := [("catnap/quiet.letters", laid_catnap_quiet_letters)] }
def WorldTwiceSaid : Prop := worldTwiceRow.holds Tryz.pinned (OpenSpec.ofChange worldTwiceSpec)

/-- ITS FALSE NEIGHBOUR: 'it returns false'. Refute it at one input. -/
def worldTwiceWrong : ChangeSpec := { name := "worldTwice", fn := fun _ => fun
  | [d1, d2, d3] => { results := [.lit (.bool false)], args := [d1, d2, d3] }
  | _ => none }
def WorldTwiceWrongFalsely : Prop := worldTwiceRow.holds Tryz.pinned (OpenSpec.ofChange worldTwiceWrong)

/-- 'catnaplaw19.WorldEnds': WHATEVER THE INPUT: true; the input reads as it did. -/
def worldEndsSpec : ChangeSpec := { name := "worldEnds", fn := fun _ => fun
  | [d1, d2, d3] => { results := [.lit (.bool true)], args := [d1, d2, d3] }
  | _ => none }
def worldEndsRow : OpenClaim := { program := "ytkgekojkboingaagreatdoor", sum := "9c68f11f185429a0d769bfaa7115c326c8bc6a03de34edb707f90e1718fe5b71", func := "catnap/catnaplaw19.WorldEnds", spec := "worldEnds", unfollowed := true, recurses := true, named := ["catnap/quiet.letters"], plainKeys := false, apart := false, laid := [("catnap/quiet.letters", laid_catnap_quiet_letters)] }
def WorldEndsSaid : Prop := worldEndsRow.holds Tryz.pinned (OpenSpec.ofChange worldEndsSpec)

/-- ITS FALSE NEIGHBOUR: 'it returns false'. Refute it at one input. -/
def worldEndsWrong : ChangeSpec := { name := "worldEnds", fn := fun _ => fun
  | [d1, d2, d3] => { results := [.lit (.bool false)], args := [d1, d2, d3] }
  | _ => none }
def WorldEndsWrongFalsely : Prop := worldEndsRow.holds Tryz.pinned (OpenSpec.ofChange worldEndsWrong)

/- THE SECOND FORM. 'bulk': how many values and letters a reading holds, each counted each time it is reached (what is shared counts as often as it is met; a slice's spare places count too). A statement '..UptoSaid' is the law's where the arguments, and the package variables that the reading takes, are together of bulk at most 1048576: NARROWER than '..Said'. Prove '..Said' where nothing that the law and all that it calls make is longer than what came in: it says more and counts as full. Else prove '..UptoSaid'. A law counts once. -/
mutual
def uptoBulk {H : Type} : DataW H → Nat
  | .lit (.string bytes) => bytes.length + 1
  | .lit _ => 1
  | .nil => 1
  | .ptr d => uptoBulk d + 1
  | .slice elems spare => uptoBulkAll elems + uptoBulkAll spare + 1
  | .agg parts => uptoBulkAll parts + 1
  | .iface _ d => uptoBulk d + 1
  | .map entries => uptoBulkEntries entries + 1
  | .held _ => 1
def uptoBulkAll {H : Type} : List (DataW H) → Nat
  | [] => 0
  | d :: r => uptoBulk d + uptoBulkAll r
def uptoBulkEntries {H : Type} : List (Lit × DataW H) → Nat
  | [] => 0
  | x :: r => uptoBulkEntry x + uptoBulkEntries r
def uptoBulkEntry {H : Type} : Lit × DataW H → Nat
  | (.string bytes, d) => bytes.length + uptoBulk d + 1
  | (_, d) => uptoBulk d + 1
 end
def uptoSmall : (H : Type) → List (DataW H) → Bool := fun _ ds => decide (uptoBulkAll ds ≤ 1048576)
def OpenSpec.upto (s : _root_.Go.ChangeSpec) : _root_.Go.OpenSpec := { _root_.Go.OpenSpec.ofChange s with cond := some uptoSmall }

/-- 'catnaplaw19.WorldReplies', WHERE WHAT IT READS IS OF BULK AT MOST 1048576: true; the input reads as it did. -/
def worldRepliesUptoRow : OpenClaim := { program := "ytkgekojkboingaagreatdoor", sum := "9c68f11f185429a0d769bfaa7115c326c8bc6a03de34edb707f90e1718fe5b71", func := "catnap/catnaplaw19.WorldReplies", spec := "worldReplies", unfollowed := true, recurses := true, named := ["catnap/quiet.letters"], plainKeys := false, apart := false, laid := [("catnap/quiet.letters", laid_catnap_quiet_letters)], narrowed := true }
def WorldRepliesUptoSaid : Prop := worldRepliesUptoRow.holds Tryz.pinned (OpenSpec.upto worldRepliesSpec)

/-- 'catnaplaw19.WorldNests', WHERE WHAT IT READS IS OF BULK AT MOST 1048576: true; the input reads as it did. -/
def worldNestsUptoRow : OpenClaim := { program := "ytkgekojkboingaagreatdoor", sum := "9c68f11f185429a0d769bfaa7115c326c8bc6a03de34edb707f90e1718fe5b71", func := "catnap/catnaplaw19.WorldNests", spec := "worldNests", unfollowed := true, recurses := true, named := ["catnap/quiet.letters"], plainKeys := false, apart := false, laid := [("catnap/quiet.letters", laid_catnap_quiet_letters)], narrowed := true }
def WorldNestsUptoSaid : Prop := worldNestsUptoRow.holds Tryz.pinned (OpenSpec.upto worldNestsSpec)

/-- 'catnaplaw19.WorldRounds', WHERE WHAT IT READS IS OF BULK AT MOST 1048576: true; the input reads as it did. -/
def worldRoundsUptoRow : OpenClaim := { program := "ytkgekojkboingaagreatdoor", sum := "9c68f11f185429a0d769bfaa7115c326c8bc6a03de34edb707f90e1718fe5b71", func := "catnap/catnaplaw19.WorldRounds", spec := "worldRounds", unfollowed := true, recurses := true, named := ["catnap/quiet.letters"], plainKeys := false, apart := false, laid := [("catnap/quiet.letters", laid_catnap_quiet_letters)], narrowed := true }
def WorldRoundsUptoSaid : Prop := worldRoundsUptoRow.holds Tryz.pinned (OpenSpec.upto worldRoundsSpec)

/-- 'catnaplaw19.WorldTwice', WHERE WHAT IT READS IS OF BULK AT MOST 1048576: true; the input reads as it did. -/
def worldTwiceUptoRow : OpenClaim := { program := "ytkgekojkboingaagreatdoor", sum := "9c68f11f185429a0d769bfaa7115c326c8bc6a03de34edb707f90e1718fe5b71", func := "catnap/catnaplaw19.WorldTwice", spec := "worldTwice", unfollowed := true, recurses := true, named := ["catnap/quiet.letters"], plainKeys := false, apart := false, laid := [("catnap/quiet.letters", laid_catnap_quiet_letters)], narrowed := true }
def WorldTwiceUptoSaid : Prop := worldTwiceUptoRow.holds Tryz.pinned (OpenSpec.upto worldTwiceSpec)

/-- 'catnaplaw19.WorldEnds', WHERE WHAT IT READS IS OF BULK AT MOST 1048576: true; the input reads as it did. -/
def worldEndsUptoRow : OpenClaim := { program := "ytkgekojkboingaagreatdoor", sum := "9c68f11f185429a0d769bfaa7115c326c8bc6a03de34edb707f90e1718fe5b71", func := "catnap/catnaplaw19.WorldEnds", spec := "worldEnds", unfollowed := true, recurses := true, named := ["catnap/quiet.letters"], plainKeys := false, apart := false, laid := [("catnap/quiet.letters", laid_catnap_quiet_letters)], narrowed := true }
def WorldEndsUptoSaid : Prop := worldEndsUptoRow.holds Tryz.pinned (OpenSpec.upto worldEndsSpec)

end Rows
end Go.Proofs.YtkgekojkboingaaGreatDoor
