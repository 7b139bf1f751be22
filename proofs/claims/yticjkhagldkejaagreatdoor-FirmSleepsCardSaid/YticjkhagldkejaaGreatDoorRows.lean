/-
  NARROWER THAN 'FOR EVERY INPUT', by the rows' own cells (each row's printed sentence says how): FirmTurns: laid · FirmRates: laid · FirmWakes: laid · FirmWords: laid · FirmSleeps: laid · RpmKeeps: laid · RpmNeeds: laid · RpmOne: laid · RpmUses: laid · RpmHandles: laid.
  DERIVED. THE GIVEN ROWS OF THIS SEAT. 10 by the template 'for every input the law returns true; each argument reads behind the call as it read before'; 0 by the template 'total and deterministic' (their statements: YticjkhagldkejaaGreatDoorTotals.lean).
  GIVEN WITH THE SEED: the statements are not yours to turn. If you find one false, say at which input.
  Laid BY PROGRAM, IN A SANDBOX (cutbox-rows.mjs): the forced cells as the released guide's own fill.sh prints them over the translation 8a9fe6fe073faabc… (all of the seat's roots in one cut). By AI agents, Wed Nov 11 2026. No macro, syntax, notation, axiom, sorry.
-/
import Derived.Test.YticjkhagldkejaaGreatDoorChecked
import GoSem.Claim
import GoSem.ClaimJoined
import GoSem.ClaimMapViews
import Derived.JoinedTies
import Derived.KernelRfl
namespace Go.Proofs.YticjkhagldkejaaGreatDoor
/- THE CELL 'sum', in the pinned program and in every row, IS THE sha256 OF THE DUMP (.gsa) THAT YticjkhagldkejaaGreatDoorProg.lean LOADS. Nothing in Lean hashes anything: it is a label: what it is worth is what the hold of that sum in a sandbox is worth. -/
noncomputable def Tryz.pinned : Pinned := { name := "yticjkhagldkejaagreatdoor", sum := "8a9fe6fe073faabc2bcfd241214b679cd19ecf8967a6acfe08782cd710026357", checked := Tryz.checked }
namespace Rows
def none {H : Type} : Left H := { results := [], args := [] }

/- WHAT THE LISTED PACKAGE-LEVEL VARIABLES READ AS WHEN THE CALL BEGINS. Each datum BY PROGRAM (the guide's laid-datum.mjs) off the statement by which the dump's own 'gosem.cut.vars' lays the variable. In a bare row this is a premise. The card (YticjkhagldkejaaGreatDoorCards.lean) ties it to the program's text. -/
def laid_catnap_quiet_letters {H : Type} : DataW H := .agg [.lit (.int .u8 114), .lit (.int .u8 97), .lit (.int .u8 115), .lit (.int .u8 100)]

/-- 'catnaplaw15.FirmTurns': WHATEVER THE INPUT: true; the input reads as it did. -/
def firmTurnsSpec : ChangeSpec := { name := "firmTurns", fn := fun _ => fun
  | [d1, d2] => { results := [.lit (.bool true)], args := [d1, d2] }
  | _ => none }
def firmTurnsRow : OpenClaim := { program := "yticjkhagldkejaagreatdoor", sum := "8a9fe6fe073faabc2bcfd241214b679cd19ecf8967a6acfe08782cd710026357", func := "catnap/catnaplaw15.FirmTurns", spec := "firmTurns", unfollowed := true, recurses := true, named := ["catnap/quiet.letters"], plainKeys := false, apart := false, laid := [("catnap/quiet.letters", laid_catnap_quiet_letters)] }
def FirmTurnsSaid : Prop := firmTurnsRow.holds Tryz.pinned (OpenSpec.ofChange firmTurnsSpec)

/-- ITS FALSE NEIGHBOUR: 'it returns false'. Refute it at one input. -/
def firmTurnsWrong : ChangeSpec := { name := "firmTurns", fn := fun _ => fun
  | [d1, d2] => { results := [.lit (.bool false)], args := [d1, d2] }
  | _ => none }
def FirmTurnsWrongFalsely : Prop := firmTurnsRow.holds Tryz.pinned (OpenSpec.ofChange firmTurnsWrong)

/-- 'catnaplaw15.FirmRates': WHATEVER THE INPUT: true; the input reads as it did. -/
def firmRatesSpec : ChangeSpec := { name := "firmRates", fn := fun _ => fun
  | [d1, d2, d3] => { results := [.lit (.bool true)], args := [d1, d2, d3] }
  | _ => none }
def firmRatesRow : OpenClaim := { program := "yticjkhagldkejaagreatdoor", sum := "8a9fe6fe073faabc2bcfd241214b679cd19ecf8967a6acfe08782cd710026357", func := "catnap/catnaplaw15.FirmRates", spec := "firmRates", unfollowed := true, recurses := true, named := ["catnap/quiet.letters"], plainKeys := false, apart := false, laid := [("catnap/quiet.letters", laid_catnap_quiet_letters)] }
def FirmRatesSaid : Prop := firmRatesRow.holds Tryz.pinned (OpenSpec.ofChange firmRatesSpec)

/-- ITS FALSE NEIGHBOUR: 'it returns false'. Refute it at one input. -/
def firmRatesWrong : ChangeSpec := { name := "firmRates", fn := fun _ => fun
  | [d1, d2, d3] => { results := [.lit (.bool false)], args := [d1, d2, d3] }
  | _ => none }
def FirmRatesWrongFalsely : Prop := firmRatesRow.holds Tryz.pinned (OpenSpec.ofChange firmRatesWrong)

/-- 'catnaplaw15.FirmWakes': WHATEVER THE INPUT: true; the input reads as it did. -/
def firmWakesSpec : ChangeSpec := { name := "firmWakes", fn := fun _ => fun
  | [d1, d2] => { results := [.lit (.bool true)], args := [d1, d2] }
  | _ => none }
def firmWakesRow : OpenClaim := { program := "yticjkhagldkejaagreatdoor", sum := "8a9fe6fe073faabc2bcfd241214b679cd19ecf8967a6acfe08782cd710026357", func := "catnap/catnaplaw15.FirmWakes", spec := "firmWakes", unfollowed := true, recurses := true, named := ["catnap/quiet.letters"], plainKeys := false, apart := false, laid := [("catnap/quiet.letters", laid_catnap_quiet_letters)] }
def FirmWakesSaid : Prop := firmWakesRow.holds Tryz.pinned (OpenSpec.ofChange firmWakesSpec)

/-- ITS FALSE NEIGHBOUR: 'it returns false'. Refute it at one input. -/
def firmWakesWrong : ChangeSpec := { name := "firmWakes", fn := fun _ => fun
  | [d1, d2] => { results := [.lit (.bool false)], args := [d1, d2] }
  | _ => none }
def FirmWakesWrongFalsely : Prop := firmWakesRow.holds Tryz.pinned (OpenSpec.ofChange firmWakesWrong)

/-- 'catnaplaw15.FirmWords': WHATEVER THE INPUT: true; the input reads as it did. -/
def firmWordsSpec : ChangeSpec := { name := "firmWords", fn := fun _ => fun
  | [d1, d2, d3] => { results := [.lit (.bool true)], args := [d1, d2, d3] }
  | _ => none }
def firmWordsRow : OpenClaim := { program := "yticjkhagldkejaagreatdoor", sum := "8a9fe6fe073faabc2bcfd241214b679cd19ecf8967a6acfe08782cd710026357", func := "catnap/catnaplaw15.FirmWords", spec := "firmWords", unfollowed := true, recurses := true, named := ["catnap/quiet.letters"], plainKeys := false, apart := false, laid := [("catnap/quiet.letters", laid_catnap_quiet_letters)] }
def FirmWordsSaid : Prop := firmWordsRow.holds Tryz.pinned (OpenSpec.ofChange firmWordsSpec)

/-- ITS FALSE NEIGHBOUR: 'it returns false'. Refute it at one input. -/
def firmWordsWrong : ChangeSpec := { name := "firmWords", fn := fun _ => fun
  | [d1, d2, d3] => { results := [.lit (.bool false)], args := [d1, d2, d3] }
  | _ => none }
def FirmWordsWrongFalsely : Prop := firmWordsRow.holds Tryz.pinned (OpenSpec.ofChange firmWordsWrong)

/-- 'catnaplaw15.FirmSleeps': WHATEVER THE INPUT: true; the input reads as it did. -/
def firmSleepsSpec : ChangeSpec := { name := "firmSleeps", fn := fun _ => fun
  | [d1, d2] => { results := [.lit (.bool true)], args := [d1, d2] }
  | _ => none }
def firmSleepsRow : OpenClaim := { program := "yticjkhagldkejaagreatdoor", sum := "8a9fe6fe073faabc2bcfd241214b679cd19ecf8967a6acfe08782cd710026357", func := "catnap/catnaplaw15.FirmSleeps", spec := "firmSleeps", unfollowed := true, recurses := true, named := ["catnap/quiet.letters"], plainKeys := false, apart := false, laid := [("catnap/quiet.letters", laid_catnap_quiet_letters)] }
def FirmSleepsSaid : Prop := firmSleepsRow.holds Tryz.pinned (OpenSpec.ofChange firmSleepsSpec)

/-- ITS FALSE NEIGHBOUR: 'it returns false'. Refute it at one input. -/
def firmSleepsWrong : ChangeSpec := { name := "firmSleeps", fn := fun _ => fun
  | [d1, d2] => { results := [.lit (.bool false)], args := [d1, d2] }
  | _ => none }
def FirmSleepsWrongFalsely : Prop := firmSleepsRow.holds Tryz.pinned (OpenSpec.ofChange firmSleepsWrong)

/-- 'catnaplaw18.RpmKeeps': WHATEVER THE INPUT: true; the input reads as it did. -/
def rpmKeepsSpec : ChangeSpec := { name := "rpmKeeps", fn := fun _ => fun
  | [d1, d2, d3, d4, d5] => { results := [.lit (.bool true)], args := [d1, d2, d3, d4, d5] }
  | _ => none }
def rpmKeepsRow : OpenClaim := { program := "yticjkhagldkejaagreatdoor", sum := "8a9fe6fe073faabc2bcfd241214b679cd19ecf8967a6acfe08782cd710026357", func := "catnap/catnaplaw18.RpmKeeps", spec := "rpmKeeps", unfollowed := true, recurses := true, named := ["catnap/quiet.letters"], plainKeys := false, apart := false, laid := [("catnap/quiet.letters", laid_catnap_quiet_letters)] }
def RpmKeepsSaid : Prop := rpmKeepsRow.holds Tryz.pinned (OpenSpec.ofChange rpmKeepsSpec)

/-- ITS FALSE NEIGHBOUR: 'it returns false'. Refute it at one input. -/
def rpmKeepsWrong : ChangeSpec := { name := "rpmKeeps", fn := fun _ => fun
  | [d1, d2, d3, d4, d5] => { results := [.lit (.bool false)], args := [d1, d2, d3, d4, d5] }
  | _ => none }
def RpmKeepsWrongFalsely : Prop := rpmKeepsRow.holds Tryz.pinned (OpenSpec.ofChange rpmKeepsWrong)

/-- 'catnaplaw18.RpmNeeds': WHATEVER THE INPUT: true; the input reads as it did. -/
def rpmNeedsSpec : ChangeSpec := { name := "rpmNeeds", fn := fun _ => fun
  | [d1, d2, d3] => { results := [.lit (.bool true)], args := [d1, d2, d3] }
  | _ => none }
def rpmNeedsRow : OpenClaim := { program := "yticjkhagldkejaagreatdoor", sum := "8a9fe6fe073faabc2bcfd241214b679cd19ecf8967a6acfe08782cd710026357", func := "catnap/catnaplaw18.RpmNeeds", spec := "rpmNeeds", unfollowed := true, recurses := true, named := ["catnap/quiet.letters"], plainKeys := false, apart := false, laid := [("catnap/quiet.letters", laid_catnap_quiet_letters)] }
def RpmNeedsSaid : Prop := rpmNeedsRow.holds Tryz.pinned (OpenSpec.ofChange rpmNeedsSpec)

/-- ITS FALSE NEIGHBOUR: 'it returns false'. Refute it at one input. -/
def rpmNeedsWrong : ChangeSpec := { name := "rpmNeeds", fn := fun _ => fun
  | [d1, d2, d3] => { results := [.lit (.bool false)], args := [d1, d2, d3] }
  | _ => none }
def RpmNeedsWrongFalsely : Prop := rpmNeedsRow.holds Tryz.pinned (OpenSpec.ofChange rpmNeedsWrong)

/-- 'catnaplaw18.RpmOne': WHATEVER THE INPUT: true; the input reads as it did. -/
def rpmOneSpec : ChangeSpec := { name := "rpmOne", fn := fun _ => fun
  | [d1, d2] => { results := [.lit (.bool true)], args := [d1, d2] }
  | _ => none }
def rpmOneRow : OpenClaim := { program := "yticjkhagldkejaagreatdoor", sum := "8a9fe6fe073faabc2bcfd241214b679cd19ecf8967a6acfe08782cd710026357", func := "catnap/catnaplaw18.RpmOne", spec := "rpmOne", unfollowed := true, recurses := true, named := ["catnap/quiet.letters"], plainKeys := false, apart := false, laid := [("catnap/quiet.letters", laid_catnap_quiet_letters)] }
def RpmOneSaid : Prop := rpmOneRow.holds Tryz.pinned (OpenSpec.ofChange rpmOneSpec)

/-- ITS FALSE NEIGHBOUR: 'it returns false'. Refute it at one input. -/
def rpmOneWrong : ChangeSpec := { name := "rpmOne", fn := fun _ => fun
  | [d1, d2] => { results := [.lit (.bool false)], args := [d1, d2] }
  | _ => none }
def RpmOneWrongFalsely : Prop := rpmOneRow.holds Tryz.pinned (OpenSpec.ofChange rpmOneWrong)

/-- 'catnaplaw18.RpmUses': WHATEVER THE INPUT: true; the input reads as it did. -/
def rpmUsesSpec : ChangeSpec := { name := "rpmUses", fn := fun _ => fun
  | [d1, d2] => { results := [.lit (.bool true)], args := [d1, d2] }
  | _ => none }
def rpmUsesRow : OpenClaim := { program := "yticjkhagldkejaagreatdoor", sum := "8a9fe6fe073faabc2bcfd241214b679cd19ecf8967a6acfe08782cd710026357", func := "catnap/catnaplaw18.RpmUses", spec := "rpmUses", inPlace := ["maps.clone"], unfollowed := true, recurses := true, named := ["catnap/quiet.letters"], plainKeys := false, apart := false, laid := [("catnap/quiet.letters", laid_catnap_quiet_letters)] }
def RpmUsesSaid : Prop := rpmUsesRow.holds Tryz.pinned (OpenSpec.ofChange rpmUsesSpec)

/-- ITS FALSE NEIGHBOUR: 'it returns false'. Refute it at one input. -/
def rpmUsesWrong : ChangeSpec := { name := "rpmUses", fn := fun _ => fun
  | [d1, d2] => { results := [.lit (.bool false)], args := [d1, d2] }
  | _ => none }
def RpmUsesWrongFalsely : Prop := rpmUsesRow.holds Tryz.pinned (OpenSpec.ofChange rpmUsesWrong)

/-- 'catnaplaw18.RpmHandles': WHATEVER THE INPUT: true; the input reads as it did. -/
def rpmHandlesSpec : ChangeSpec := { name := "rpmHandles", fn := fun _ => fun
  | [d1, d2] => { results := [.lit (.bool true)], args := [d1, d2] }
  | _ => none }
def rpmHandlesRow : OpenClaim := { program := "yticjkhagldkejaagreatdoor", sum := "8a9fe6fe073faabc2bcfd241214b679cd19ecf8967a6acfe08782cd710026357", func := "catnap/catnaplaw18.RpmHandles", spec := "rpmHandles", inPlace := ["maps.clone"], unfollowed := true, recurses := true, named := ["catnap/quiet.letters"], plainKeys := false, apart := false, laid := [("catnap/quiet.letters", laid_catnap_quiet_letters)] }
def RpmHandlesSaid : Prop := rpmHandlesRow.holds Tryz.pinned (OpenSpec.ofChange rpmHandlesSpec)

/-- ITS FALSE NEIGHBOUR: 'it returns false'. Refute it at one input. -/
def rpmHandlesWrong : ChangeSpec := { name := "rpmHandles", fn := fun _ => fun
  | [d1, d2] => { results := [.lit (.bool false)], args := [d1, d2] }
  | _ => none }
def RpmHandlesWrongFalsely : Prop := rpmHandlesRow.holds Tryz.pinned (OpenSpec.ofChange rpmHandlesWrong)

/- THE SECOND FORM. 'bulk': how many values and letters a reading holds, each counted each time it is reached (what is shared counts as often as it is met; a slice's spare places count too). A statement '..UptoSaid' is the law's where the arguments, and the package variables that the reading takes, are together of bulk at most 1048576: NARROWER than '..Said'. Prove '..Said' where nothing that the law and all that it calls make is longer than what came in: it says more and counts as full. Else prove '..UptoSaid'. A law counts once. -/
mutual
def uptoBulk {H : Type} : DataW H → Nat
  | .lit (.string bytes) => bytes.length + 1
  | .lit _ => 1
  | .nil => 1
  | .ptr d => uptoBulk d + 1
  | .slice elems spare => uptoBulkAll elems + uptoBulkAll spare + 1
  | .agg parts => uptoBulkAll parts + 1
  | .iface _ d => uptoBulk d + 1
  | .map entries => uptoBulkEntries entries + 1
  | .held _ => 1
def uptoBulkAll {H : Type} : List (DataW H) → Nat
  | [] => 0
  | d :: r => uptoBulk d + uptoBulkAll r
def uptoBulkEntries {H : Type} : List (Lit × DataW H) → Nat
  | [] => 0
  | x :: r => uptoBulkEntry x + uptoBulkEntries r
def uptoBulkEntry {H : Type} : Lit × DataW H → Nat
  | (.string bytes, d) => bytes.length + uptoBulk d + 1
  | (_, d) => uptoBulk d + 1
 end
def uptoSmall : (H : Type) → List (DataW H) → Bool := fun _ ds => decide (uptoBulkAll ds ≤ 1048576)
def OpenSpec.upto (s : _root_.Go.ChangeSpec) : _root_.Go.OpenSpec := { _root_.Go.OpenSpec.ofChange s with cond := some uptoSmall }

/-- 'catnaplaw15.FirmTurns', WHERE WHAT IT READS IS OF BULK AT MOST 1048576: true; the input reads as it did. -/
def firmTurnsUptoRow : OpenClaim := { program := "yticjkhagldkejaagreatdoor", sum := "8a9fe6fe073faabc2bcfd241214b679cd19ecf8967a6acfe08782cd710026357", func := "catnap/catnaplaw15.FirmTurns", spec := "firmTurns", unfollowed := true, recurses := true, named := ["catnap/quiet.letters"], plainKeys := false, apart := false, laid := [("catnap/quiet.letters", laid_catnap_quiet_letters)], narrowed := true }
def FirmTurnsUptoSaid : Prop := firmTurnsUptoRow.holds Tryz.pinned (OpenSpec.upto firmTurnsSpec)

/-- 'catnaplaw15.FirmRates', WHERE WHAT IT READS IS OF BULK AT MOST 1048576: true; the input reads as it did. -/
def firmRatesUptoRow : OpenClaim := { program := "yticjkhagldkejaagreatdoor", sum := "8a9fe6fe073faabc2bcfd241214b679cd19ecf8967a6acfe08782cd710026357", func := "catnap/catnaplaw15.FirmRates", spec := "firmRates", unfollowed := true, recurses := true, named := ["catnap/quiet.letters"], plainKeys := false, apart := false, laid := [("catnap/quiet.letters", laid_catnap_quiet_letters)], narrowed := true }
def FirmRatesUptoSaid : Prop := firmRatesUptoRow.holds Tryz.pinned (OpenSpec.upto firmRatesSpec)

/-- 'catnaplaw15.FirmWakes', WHERE WHAT IT READS IS OF BULK AT MOST 1048576: true; the input reads as it did. -/
def firmWakesUptoRow : OpenClaim := { program := "yticjkhagldkejaagreatdoor", sum := "8a9fe6fe073faabc2bcfd241214b679cd19ecf8967a6acfe08782cd710026357", func := "catnap/catnaplaw15.FirmWakes", spec := "firmWakes", unfollowed := true, recurses := true, named := ["catnap/quiet.letters"], plainKeys := false, apart := false, laid := [("catnap/quiet.letters", laid_catnap_quiet_letters)], narrowed := true }
def FirmWakesUptoSaid : Prop := firmWakesUptoRow.holds Tryz.pinned (OpenSpec.upto firmWakesSpec)

/-- 'catnaplaw15.FirmWords', WHERE WHAT IT READS IS OF BULK AT MOST 1048576: true; the input reads as it did. -/
def firmWordsUptoRow : OpenClaim := { program := "yticjkhagldkejaagreatdoor", sum := "8a9fe6fe073faabc2bcfd241214b679cd19ecf8967a6acfe08782cd710026357", func := "catnap/catnaplaw15.FirmWords", spec := "firmWords", unfollowed := true, recurses := true, named := ["catnap/quiet.letters"], plainKeys := false, apart := false, laid := [("catnap/quiet.letters", laid_catnap_quiet_letters)], narrowed := true }
def FirmWordsUptoSaid : Prop := firmWordsUptoRow.holds Tryz.pinned (OpenSpec.upto firmWordsSpec)

/-- 'catnaplaw15.FirmSleeps', WHERE WHAT IT READS IS OF BULK AT MOST 1048576: true; the input reads as it did. -/
def firmSleepsUptoRow : OpenClaim := { program := "yticjkhagldkejaagreatdoor", sum := "8a9fe6fe073faabc2bcfd241214b679cd19ecf8967a6acfe08782cd710026357", func := "catnap/catnaplaw15.FirmSleeps", spec := "firmSleeps", unfollowed := true, recurses := true, named := ["catnap/quiet.letters"], plainKeys := false, apart := false, laid := [("catnap/quiet.letters", laid_catnap_quiet_letters)], narrowed := true }
def FirmSleepsUptoSaid : Prop := firmSleepsUptoRow.holds Tryz.pinned (OpenSpec.upto firmSleepsSpec)

/-- 'catnaplaw18.RpmKeeps', WHERE WHAT IT READS IS OF BULK AT MOST 1048576: true; the input reads as it did. -/
def rpmKeepsUptoRow : OpenClaim := { program := "yticjkhagldkejaagreatdoor", sum := "8a9fe6fe073faabc2bcfd241214b679cd19ecf8967a6acfe08782cd710026357", func := "catnap/catnaplaw18.RpmKeeps", spec := "rpmKeeps", unfollowed := true, recurses := true, named := ["catnap/quiet.letters"], plainKeys := false, apart := false, laid := [("catnap/quiet.letters", laid_catnap_quiet_letters)], narrowed := true }
def RpmKeepsUptoSaid : Prop := rpmKeepsUptoRow.holds Tryz.pinned (OpenSpec.upto rpmKeepsSpec)

/-- 'catnaplaw18.RpmNeeds', WHERE WHAT IT READS IS OF BULK AT MOST 1048576: true; the input reads as it did. -/
def rpmNeedsUptoRow : OpenClaim := { program := "yticjkhagldkejaagreatdoor", sum := "8a9fe6fe073faabc2bcfd241214b679cd19ecf8967a6acfe08782cd710026357", func := "catnap/catnaplaw18.RpmNeeds", spec := "rpmNeeds", unfollowed := true, recurses := true, named := ["catnap/quiet.letters"], plainKeys := false, apart := false, laid := [("catnap/quiet.letters", laid_catnap_quiet_letters)], narrowed := true }
def RpmNeedsUptoSaid : Prop := rpmNeedsUptoRow.holds Tryz.pinned (OpenSpec.upto rpmNeedsSpec)

/-- 'catnaplaw18.RpmOne', WHERE WHAT IT READS IS OF BULK AT MOST 1048576: true; the input reads as it did. -/
def rpmOneUptoRow : OpenClaim := { program := "yticjkhagldkejaagreatdoor", sum := "8a9fe6fe073faabc2bcfd241214b679cd19ecf8967a6acfe08782cd710026357", func := "catnap/catnaplaw18.RpmOne", spec := "rpmOne", unfollowed := true, recurses := true, named := ["catnap/quiet.letters"], plainKeys := false, apart := false, laid := [("catnap/quiet.letters", laid_catnap_quiet_letters)], narrowed := true }
def RpmOneUptoSaid : Prop := rpmOneUptoRow.holds Tryz.pinned (OpenSpec.upto rpmOneSpec)

/-- 'catnaplaw18.RpmUses', WHERE WHAT IT READS IS OF BULK AT MOST 1048576: true; the input reads as it did. -/
def rpmUsesUptoRow : OpenClaim := { program := "yticjkhagldkejaagreatdoor", sum := "8a9fe6fe073faabc2bcfd241214b679cd19ecf8967a6acfe08782cd710026357", func := "catnap/catnaplaw18.RpmUses", spec := "rpmUses", inPlace := ["maps.clone"], unfollowed := true, recurses := true, named := ["catnap/quiet.letters"], plainKeys := false, apart := false, laid := [("catnap/quiet.letters", laid_catnap_quiet_letters)], narrowed := true }
def RpmUsesUptoSaid : Prop := rpmUsesUptoRow.holds Tryz.pinned (OpenSpec.upto rpmUsesSpec)

/-- 'catnaplaw18.RpmHandles', WHERE WHAT IT READS IS OF BULK AT MOST 1048576: true; the input reads as it did. -/
def rpmHandlesUptoRow : OpenClaim := { program := "yticjkhagldkejaagreatdoor", sum := "8a9fe6fe073faabc2bcfd241214b679cd19ecf8967a6acfe08782cd710026357", func := "catnap/catnaplaw18.RpmHandles", spec := "rpmHandles", inPlace := ["maps.clone"], unfollowed := true, recurses := true, named := ["catnap/quiet.letters"], plainKeys := false, apart := false, laid := [("catnap/quiet.letters", laid_catnap_quiet_letters)], narrowed := true }
def RpmHandlesUptoSaid : Prop := rpmHandlesUptoRow.holds Tryz.pinned (OpenSpec.upto rpmHandlesSpec)

end Rows
end Go.Proofs.YticjkhagldkejaaGreatDoor
