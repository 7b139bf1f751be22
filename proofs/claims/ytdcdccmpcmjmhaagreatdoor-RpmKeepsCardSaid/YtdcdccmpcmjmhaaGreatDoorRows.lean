/-
  NARROWER THAN 'FOR EVERY INPUT', by the rows' own cells (each row's printed sentence says how): RpmKeeps: laid · RpmNeeds: laid · RpmOne: laid · RpmUses: laid · RpmHandles: laid.
  DERIVED. THE GIVEN ROWS OF THIS SEAT. 5 by the template 'for every input the law returns true; each argument reads behind the call as it read before'; 0 by the template 'total and deterministic' (their statements: YtdcdccmpcmjmhaaGreatDoorTotals.lean).
  GIVEN WITH THE SEED: the statements are not yours to turn. If you find one false, say at which input.
  Laid BY PROGRAM, IN A SANDBOX (cutbox-rows.mjs): the forced cells as the released guide's own fill.sh prints them over the translation d1599ceb34a4929b… (all of the seat's roots in one cut). By AI agents, Wed Nov 11 2026. No macro, syntax, notation, axiom, sorry.
-/
import Derived.Test.YtdcdccmpcmjmhaaGreatDoorChecked
import GoSem.Claim
import GoSem.ClaimJoined
import GoSem.ClaimMapViews
import Derived.JoinedTies
import Derived.KernelRfl
namespace Go.Proofs.YtdcdccmpcmjmhaaGreatDoor
/- THE CELL 'sum', in the pinned program and in every row, IS THE sha256 OF THE DUMP (.gsa) THAT YtdcdccmpcmjmhaaGreatDoorProg.lean LOADS. Nothing in Lean hashes anything: it is a label: what it is worth is what the hold of that sum in a sandbox is worth. -/
noncomputable def Tryz.pinned : Pinned := { name := "ytdcdccmpcmjmhaagreatdoor", sum := "d1599ceb34a4929b2634c4bcc6b76dac59a93b2769fdf6209510a90889e218fb", checked := Tryz.checked }
namespace Rows
def none {H : Type} : Left H := { results := [], args := [] }

/- WHAT THE LISTED PACKAGE-LEVEL VARIABLES READ AS WHEN THE CALL BEGINS. Each datum BY PROGRAM (the guide's laid-datum.mjs) off the statement by which the dump's own 'gosem.cut.vars' lays the variable. In a bare row this is a premise. The card (YtdcdccmpcmjmhaaGreatDoorCards.lean) ties it to the program's text. -/
def laid_catnap_quiet_letters {H : Type} : DataW H := .agg [.lit (.int .u8 114), .lit (.int .u8 97), .lit (.int .u8 115), .lit (.int .u8 100)]

/-- 'catnaplaw18.RpmKeeps': WHATEVER THE INPUT: true; the input reads as it did. -/
def rpmKeepsSpec : ChangeSpec := { name := "rpmKeeps", fn := fun _ => fun
  | [d1, d2, d3, d4, d5] => { results := [.lit (.bool true)], args := [d1, d2, d3, d4, d5] }
  | _ => none }
def rpmKeepsRow : OpenClaim := { program := "ytdcdccmpcmjmhaagreatdoor", sum := "d1599ceb34a4929b2634c4bcc6b76dac59a93b2769fdf6209510a90889e218fb", func := "catnap/catnaplaw18.RpmKeeps", spec := "rpmKeeps", unfollowed := true, recurses := true, named := ["catnap/quiet.letters"], plainKeys := false, apart := false, laid := [("catnap/quiet.letters", laid_catnap_quiet_letters)] }
def RpmKeepsSaid : Prop := rpmKeepsRow.holds Tryz.pinned (OpenSpec.ofChange rpmKeepsSpec)

/-- ITS FALSE NEIGHBOUR: 'it returns false'. Refute it at one input. -/
def rpmKeepsWrong : ChangeSpec := { name := "rpmKeeps", fn := fun _ => fun
  | [d1, d2, d3, d4, d5] => { results := [.lit (.bool false)], args := [d1, d2, d3, d4, d5] }
  | _ => none }
def RpmKeepsWrongFalsely : Prop := rpmKeepsRow.holds Tryz.pinned (OpenSpec.ofChange rpmKeepsWrong)

/-- 'catnaplaw18.RpmNeeds': WHATEVER THE INPUT: true; the input reads as it did. -/
def rpmNeedsSpec : ChangeSpec := { name := "rpmNeeds", fn := fun _ => fun
  | [d1, d2, d3] => { results := [.lit (.bool true)], args := [d1, d2, d3] }
  | _ => none }
def rpmNeedsRow : OpenClaim := { program := "ytdcdccmpcmjmhaagreatdoor", sum := "d1599ceb34a4929b2634c4bcc6b76dac59a93b2769fdf6209510a90889e218fb", func := "catnap/catnaplaw18.RpmNeeds", spec := "rpmNeeds", unfollowed := true, recurses := true, named := ["catnap/quiet.letters"], plainKeys := false, apart := false, laid := [("catnap/quiet.letters", laid_catnap_quiet_letters)] }
def RpmNeedsSaid : Prop := rpmNeedsRow.holds Tryz.pinned (OpenSpec.ofChange rpmNeedsSpec)

/-- ITS FALSE NEIGHBOUR: 'it returns false'. Refute it at one input. -/
def rpmNeedsWrong : ChangeSpec := { name := "rpmNeeds", fn := fun _ => fun
  | [d1, d2, d3] => { results := [.lit (.bool false)], args := [d1, d2, d3] }
  | _ => none }
def RpmNeedsWrongFalsely : Prop := rpmNeedsRow.holds Tryz.pinned (OpenSpec.ofChange rpmNeedsWrong)

/-- 'catnaplaw18.RpmOne': WHATEVER THE INPUT: true; the input reads as it did. -/
def rpmOneSpec : ChangeSpec := { name := "rpmOne", fn := fun _ => fun
  | [d1, d2] => { results := [.lit (.bool true)], args := [d1, d2] }
  | _ => none }
def rpmOneRow : OpenClaim := { program := "ytdcdccmpcmjmhaagreatdoor", sum := "d1599ceb34a4929b2634c4bcc6b76dac59a93b2769fdf6209510a90889e218fb", func := "catnap/catnaplaw18.RpmOne", spec := "rpmOne", unfollowed := true, recurses := true, named := ["catnap/quiet.letters"], plainKeys := false, apart := false, laid := [("catnap/quiet.letters", laid_catnap_quiet_letters)] }
def RpmOneSaid : Prop := rpmOneRow.holds Tryz.pinned (OpenSpec.ofChange rpmOneSpec)

/-- ITS FALSE NEIGHBOUR: 'it returns false'. Refute it at one input. -/
def rpmOneWrong : ChangeSpec := { name := "rpmOne", fn := fun _ => fun
  | [d1, d2] => { results := [.lit (.bool false)], args := [d1, d2] }
  | _ => none }
def RpmOneWrongFalsely : Prop := rpmOneRow.holds Tryz.pinned (OpenSpec.ofChange rpmOneWrong)

/-- 'catnaplaw18.RpmUses': WHATEVER THE INPUT: true; the input reads as it did. -/
def rpmUsesSpec : ChangeSpec := { name := "rpmUses", fn := fun _ => fun
  | [d1, d2] => { results := [.lit (.bool true)], args := [d1, d2] }
  | _ => none }
def rpmUsesRow : OpenClaim := { program := "ytdcdccmpcmjmhaagreatdoor", sum := "d1599ceb34a4929b2634c4bcc6b76dac59a93b2769fdf6209510a90889e218fb", func := "catnap/catnaplaw18.RpmUses", spec := "rpmUses", inPlace := ["maps.clone"], unfollowed := true, recurses := true, named := ["catnap/quiet.letters"], plainKeys := false, apart := false, laid := [("catnap/quiet.letters", laid_catnap_quiet_letters)] }
def RpmUsesSaid : Prop := rpmUsesRow.holds Tryz.pinned (OpenSpec.ofChange rpmUsesSpec)

/-- ITS FALSE NEIGHBOUR: 'it returns false'. Refute it at one input. -/
def rpmUsesWrong : ChangeSpec := { name := "rpmUses", fn := fun _ => fun
  | [d1, d2] => { results := [.lit (.bool false)], args := [d1, d2] }
  | _ => none }
def RpmUsesWrongFalsely : Prop := rpmUsesRow.holds Tryz.pinned (OpenSpec.ofChange rpmUsesWrong)

/-- 'catnaplaw18.RpmHandles': WHATEVER THE INPUT: true; the input reads as it did. -/
def rpmHandlesSpec : ChangeSpec := { name := "rpmHandles", fn := fun _ => fun
  | [d1, d2] => { results := [.lit (.bool true)], args := [d1, d2] }
  | _ => none }
def rpmHandlesRow : OpenClaim := { program := "ytdcdccmpcmjmhaagreatdoor", sum := "d1599ceb34a4929b2634c4bcc6b76dac59a93b2769fdf6209510a90889e218fb", func := "catnap/catnaplaw18.RpmHandles", spec := "rpmHandles", inPlace := ["maps.clone"], unfollowed := true, recurses := true, named := ["catnap/quiet.letters"], plainKeys := false, apart := false, laid := [("catnap/quiet.letters", laid_catnap_quiet_letters)] }
def RpmHandlesSaid : Prop := rpmHandlesRow.holds Tryz.pinned (OpenSpec.ofChange rpmHandlesSpec)

/-- ITS FALSE NEIGHBOUR: 'it returns false'. Refute it at one input. -/
def rpmHandlesWrong : ChangeSpec := { name := "rpmHandles", fn := fun _ => fun
  | [d1, d2] => { results := [.lit (.bool false)], args := [d1, d2] }
  | _ => none }
def RpmHandlesWrongFalsely : Prop := rpmHandlesRow.holds Tryz.pinned (OpenSpec.ofChange rpmHandlesWrong)

/- THE SECOND FORM. 'bulk': how many values and letters a reading holds, each counted each time it is reached (what is shared counts as often as it is met; a slice's spare places count too). A statement '..UptoSaid' is the law's where the arguments, and the package variables that the reading takes, are together of bulk at most 1048576: NARROWER than '..Said'. Prove '..Said' where nothing that the law and all that it calls make is longer than what came in: it says more and counts as full. Else prove '..UptoSaid'. A law counts once. -/
mutual
def uptoBulk {H : Type} : DataW H → Nat
  | .lit (.string bytes) => bytes.length + 1
  | .lit _ => 1
  | .nil => 1
  | .ptr d => uptoBulk d + 1
  | .slice elems spare => uptoBulkAll elems + uptoBulkAll spare + 1
  | .agg parts => uptoBulkAll parts + 1
  | .iface _ d => uptoBulk d + 1
  | .map entries => uptoBulkEntries entries + 1
  | .held _ => 1
def uptoBulkAll {H : Type} : List (DataW H) → Nat
  | [] => 0
  | d :: r => uptoBulk d + uptoBulkAll r
def uptoBulkEntries {H : Type} : List (Lit × DataW H) → Nat
  | [] => 0
  | x :: r => uptoBulkEntry x + uptoBulkEntries r
def uptoBulkEntry {H : Type} : Lit × DataW H → Nat
  | (.string bytes, d) => bytes.length + uptoBulk d + 1
  | (_, d) => uptoBulk d + 1
 end
def uptoSmall : (H : Type) → List (DataW H) → Bool := fun _ ds => decide (uptoBulkAll ds ≤ 1048576)
def OpenSpec.upto (s : _root_.Go.ChangeSpec) : _root_.Go.OpenSpec := { _root_.Go.OpenSpec.ofChange s with cond := some uptoSmall }

/-- 'catnaplaw18.RpmKeeps', WHERE WHAT IT READS IS OF BULK AT MOST 1048576: true; the input reads as it did. -/
def rpmKeepsUptoRow : OpenClaim := { program := "ytdcdccmpcmjmhaagreatdoor", sum := "d1599ceb34a4929b2634c4bcc6b76dac59a93b2769fdf6209510a90889e218fb", func := "catnap/catnaplaw18.RpmKeeps", spec := "rpmKeeps", unfollowed := true, recurses := true, named := ["catnap/quiet.letters"], plainKeys := false, apart := false, laid := [("catnap/quiet.letters", laid_catnap_quiet_letters)], narrowed := true }
def RpmKeepsUptoSaid : Prop := rpmKeepsUptoRow.holds Tryz.pinned (OpenSpec.upto rpmKeepsSpec)

/-- 'catnaplaw18.RpmNeeds', WHERE WHAT IT READS IS OF BULK AT MOST 1048576: true; the input reads as it did. -/
def rpmNeedsUptoRow : OpenClaim := { program := "ytdcdccmpcmjmhaagreatdoor", sum := "d1599ceb34a4929b2634c4bcc6b76dac59a93b2769fdf6209510a90889e218fb", func := "catnap/catnaplaw18.RpmNeeds", spec := "rpmNeeds", unfollowed := true, recurses := true, named := ["catnap/quiet.letters"], plainKeys := false, apart := false, laid := [("catnap/quiet.letters", laid_catnap_quiet_letters)], narrowed := true }
def RpmNeedsUptoSaid : Prop := rpmNeedsUptoRow.holds Tryz.pinned (OpenSpec.upto rpmNeedsSpec)

/-- 'catnaplaw18.RpmOne', WHERE WHAT IT READS IS OF BULK AT MOST 1048576: true; the input reads as it did. -/
def rpmOneUptoRow : OpenClaim := { program := "ytdcdccmpcmjmhaagreatdoor", sum := "d1599ceb34a4929b2634c4bcc6b76dac59a93b2769fdf6209510a90889e218fb", func := "catnap/catnaplaw18.RpmOne", spec := "rpmOne", unfollowed := true, recurses := true, named := ["catnap/quiet.letters"], plainKeys := false, apart := false, laid := [("catnap/quiet.letters", laid_catnap_quiet_letters)], narrowed := true }
def RpmOneUptoSaid : Prop := rpmOneUptoRow.holds Tryz.pinned (OpenSpec.upto rpmOneSpec)

/-- 'catnaplaw18.RpmUses', WHERE WHAT IT READS IS OF BULK AT MOST 1048576: true; the input reads as it did. -/
def rpmUsesUptoRow : OpenClaim := { program := "ytdcdccmpcmjmhaagreatdoor", sum := "d1599ceb34a4929b2634c4bcc6b76dac59a93b2769fdf6209510a90889e218fb", func := "catnap/catnaplaw18.RpmUses", spec := "rpmUses", inPlace := ["maps.clone"], unfollowed := true, recurses := true, named := ["catnap/quiet.letters"], plainKeys := false, apart := false, laid := [("catnap/quiet.letters", laid_catnap_quiet_letters)], narrowed := true }
def RpmUsesUptoSaid : Prop := rpmUsesUptoRow.holds Tryz.pinned (OpenSpec.upto rpmUsesSpec)

/-- 'catnaplaw18.RpmHandles', WHERE WHAT IT READS IS OF BULK AT MOST 1048576: true; the input reads as it did. -/
def rpmHandlesUptoRow : OpenClaim := { program := "ytdcdccmpcmjmhaagreatdoor", sum := "d1599ceb34a4929b2634c4bcc6b76dac59a93b2769fdf6209510a90889e218fb", func := "catnap/catnaplaw18.RpmHandles", spec := "rpmHandles", inPlace := ["maps.clone"], unfollowed := true, recurses := true, named := ["catnap/quiet.letters"], plainKeys := false, apart := false, laid := [("catnap/quiet.letters", laid_catnap_quiet_letters)], narrowed := true }
def RpmHandlesUptoSaid : Prop := rpmHandlesUptoRow.holds Tryz.pinned (OpenSpec.upto rpmHandlesSpec)

end Rows
end Go.Proofs.YtdcdccmpcmjmhaaGreatDoor
