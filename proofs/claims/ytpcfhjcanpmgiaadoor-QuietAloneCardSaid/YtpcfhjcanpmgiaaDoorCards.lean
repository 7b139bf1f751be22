/-
  DERIVED. GIVEN WITH THE SEED: THE CARDS: each row of YtpcfhjcanpmgiaaDoorRows.lean that lists a variable, with what it lists TIED to the program's text (the seventh form; the later family's looks); each row that meets fmt, with fmt's text TOLD by the authors' own Lean function (tested against real Go, not proved from fmt's source: count such statements apart). THE CARD IS WHAT COUNTS. Prove the row's statement (the work); the ties are given (YtpcfhjcanpmgiaaDoorTie.lean); close each card by the builder's one call (the guide's Derived/Test/ToyasCard.lean, 'card_holds'). Laid BY PROGRAM, IN A SANDBOX (cutbox-door.mjs). By AI agents, Wed Nov 11 2026. No macro, syntax, notation, axiom, sorry.
-/
import Derived.Test.YtpcfhjcanpmgiaaDoorRows
import GoSem.ClaimSeven
namespace Go.Proofs.YtpcfhjcanpmgiaaDoor
namespace Rows

/-- THE TIED CARD OF 'catnaplaw10.QuietAlone'. -/
def quietAloneCard : Claim7 := { stood := { row := quietAloneRow, standIns := [], harness := (true, "00b91fa3c9b95dc0e501835ddf804989f6ec14cd2d3a545597e8532c4cb62779"), looks := false }, kinds := [], alts := [], laidByText := true, laidKinds := [.data], laidTests := true, laidLooks := .later }
def QuietAloneCardSaid : Prop := Claim7.holds Tryd.pinned (.plain (OpenSpec.ofChange quietAloneSpec)) quietAloneCard

/-- THE TIED CARD OF 'catnaplaw10.QuietLeaves'. -/
def quietLeavesCard : Claim7 := { stood := { row := quietLeavesRow, standIns := [], harness := (true, "00b91fa3c9b95dc0e501835ddf804989f6ec14cd2d3a545597e8532c4cb62779"), looks := false }, kinds := [], alts := [], laidByText := true, laidKinds := [.data], laidTests := true, laidLooks := .later }
def QuietLeavesCardSaid : Prop := Claim7.holds Tryd.pinned (.plain (OpenSpec.ofChange quietLeavesSpec)) quietLeavesCard

/-- THE SECOND FORM's CARD OF 'catnaplaw10.QuietAlone'. -/
def quietAloneUptoCard : Claim7 := { stood := { row := quietAloneUptoRow, standIns := [], harness := (true, "00b91fa3c9b95dc0e501835ddf804989f6ec14cd2d3a545597e8532c4cb62779"), looks := false }, kinds := [], alts := [], laidByText := true, laidKinds := [.data], laidTests := true, laidLooks := .later }
def QuietAloneUptoCardSaid : Prop := Claim7.holds Tryd.pinned (.plain (OpenSpec.upto quietAloneSpec)) quietAloneUptoCard

/-- THE SECOND FORM's CARD OF 'catnaplaw10.QuietLeaves'. -/
def quietLeavesUptoCard : Claim7 := { stood := { row := quietLeavesUptoRow, standIns := [], harness := (true, "00b91fa3c9b95dc0e501835ddf804989f6ec14cd2d3a545597e8532c4cb62779"), looks := false }, kinds := [], alts := [], laidByText := true, laidKinds := [.data], laidTests := true, laidLooks := .later }
def QuietLeavesUptoCardSaid : Prop := Claim7.holds Tryd.pinned (.plain (OpenSpec.upto quietLeavesSpec)) quietLeavesUptoCard
end Rows
end Go.Proofs.YtpcfhjcanpmgiaaDoor
