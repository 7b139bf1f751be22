/-
  DERIVED. GIVEN WITH THE SEED: THE CARDS: each row of YtdcdccmpcmjmhaaGreatDoorRows.lean that lists a variable, with what it lists TIED to the program's text (the seventh form; the later family's looks); each row that meets fmt, with fmt's text TOLD by the authors' own Lean function (tested against real Go, not proved from fmt's source: count such statements apart). THE CARD IS WHAT COUNTS. Prove the row's statement (the work); the ties are given (YtdcdccmpcmjmhaaGreatDoorTie.lean); close each card by the builder's one call (the guide's Derived/Test/ToyasCard.lean, 'card_holds'). Laid BY PROGRAM, IN A SANDBOX (cutbox-door.mjs). By AI agents, Wed Nov 11 2026. No macro, syntax, notation, axiom, sorry.
-/
import Derived.Test.YtdcdccmpcmjmhaaGreatDoorRows
import GoSem.ClaimSeven
namespace Go.Proofs.YtdcdccmpcmjmhaaGreatDoor
namespace Rows

/-- THE TIED CARD OF 'catnaplaw18.RpmKeeps'. -/
def rpmKeepsCard : Claim7 := { stood := { row := rpmKeepsRow, standIns := [], harness := (true, "2294cf8d51d6a7e62c4c8c095c5c823713f6af25ee36ca38c92d0a02caf9e71c"), looks := true }, kinds := [], alts := [], laidByText := true, laidKinds := [.data], laidTests := true, laidLooks := .later }
def RpmKeepsCardSaid : Prop := Claim7.holds Tryz.pinned (.plain (OpenSpec.ofChange rpmKeepsSpec)) rpmKeepsCard

/-- THE TIED CARD OF 'catnaplaw18.RpmNeeds'. -/
def rpmNeedsCard : Claim7 := { stood := { row := rpmNeedsRow, standIns := [], harness := (true, "2294cf8d51d6a7e62c4c8c095c5c823713f6af25ee36ca38c92d0a02caf9e71c"), looks := true }, kinds := [], alts := [], laidByText := true, laidKinds := [.data], laidTests := true, laidLooks := .later }
def RpmNeedsCardSaid : Prop := Claim7.holds Tryz.pinned (.plain (OpenSpec.ofChange rpmNeedsSpec)) rpmNeedsCard

/-- THE TIED CARD OF 'catnaplaw18.RpmOne'. -/
def rpmOneCard : Claim7 := { stood := { row := rpmOneRow, standIns := [], harness := (true, "2294cf8d51d6a7e62c4c8c095c5c823713f6af25ee36ca38c92d0a02caf9e71c"), looks := true }, kinds := [], alts := [], laidByText := true, laidKinds := [.data], laidTests := true, laidLooks := .later }
def RpmOneCardSaid : Prop := Claim7.holds Tryz.pinned (.plain (OpenSpec.ofChange rpmOneSpec)) rpmOneCard

/-- THE TIED CARD OF 'catnaplaw18.RpmUses'. -/
def rpmUsesCard : Claim7 := { stood := { row := rpmUsesRow, standIns := [], harness := (true, "2294cf8d51d6a7e62c4c8c095c5c823713f6af25ee36ca38c92d0a02caf9e71c"), looks := true }, kinds := [], alts := [], laidByText := true, laidKinds := [.data], laidTests := true, laidLooks := .later }
def RpmUsesCardSaid : Prop := Claim7.holds Tryz.pinned (.plain (OpenSpec.ofChange rpmUsesSpec)) rpmUsesCard

/-- THE TIED CARD OF 'catnaplaw18.RpmHandles'. -/
def rpmHandlesCard : Claim7 := { stood := { row := rpmHandlesRow, standIns := [], harness := (true, "2294cf8d51d6a7e62c4c8c095c5c823713f6af25ee36ca38c92d0a02caf9e71c"), looks := true }, kinds := [], alts := [], laidByText := true, laidKinds := [.data], laidTests := true, laidLooks := .later }
def RpmHandlesCardSaid : Prop := Claim7.holds Tryz.pinned (.plain (OpenSpec.ofChange rpmHandlesSpec)) rpmHandlesCard

/-- THE SECOND FORM's CARD OF 'catnaplaw18.RpmKeeps'. -/
def rpmKeepsUptoCard : Claim7 := { stood := { row := rpmKeepsUptoRow, standIns := [], harness := (true, "2294cf8d51d6a7e62c4c8c095c5c823713f6af25ee36ca38c92d0a02caf9e71c"), looks := true }, kinds := [], alts := [], laidByText := true, laidKinds := [.data], laidTests := true, laidLooks := .later }
def RpmKeepsUptoCardSaid : Prop := Claim7.holds Tryz.pinned (.plain (OpenSpec.upto rpmKeepsSpec)) rpmKeepsUptoCard

/-- THE SECOND FORM's CARD OF 'catnaplaw18.RpmNeeds'. -/
def rpmNeedsUptoCard : Claim7 := { stood := { row := rpmNeedsUptoRow, standIns := [], harness := (true, "2294cf8d51d6a7e62c4c8c095c5c823713f6af25ee36ca38c92d0a02caf9e71c"), looks := true }, kinds := [], alts := [], laidByText := true, laidKinds := [.data], laidTests := true, laidLooks := .later }
def RpmNeedsUptoCardSaid : Prop := Claim7.holds Tryz.pinned (.plain (OpenSpec.upto rpmNeedsSpec)) rpmNeedsUptoCard

/-- THE SECOND FORM's CARD OF 'catnaplaw18.RpmOne'. -/
def rpmOneUptoCard : Claim7 := { stood := { row := rpmOneUptoRow, standIns := [], harness := (true, "2294cf8d51d6a7e62c4c8c095c5c823713f6af25ee36ca38c92d0a02caf9e71c"), looks := true }, kinds := [], alts := [], laidByText := true, laidKinds := [.data], laidTests := true, laidLooks := .later }
def RpmOneUptoCardSaid : Prop := Claim7.holds Tryz.pinned (.plain (OpenSpec.upto rpmOneSpec)) rpmOneUptoCard

/-- THE SECOND FORM's CARD OF 'catnaplaw18.RpmUses'. -/
def rpmUsesUptoCard : Claim7 := { stood := { row := rpmUsesUptoRow, standIns := [], harness := (true, "2294cf8d51d6a7e62c4c8c095c5c823713f6af25ee36ca38c92d0a02caf9e71c"), looks := true }, kinds := [], alts := [], laidByText := true, laidKinds := [.data], laidTests := true, laidLooks := .later }
def RpmUsesUptoCardSaid : Prop := Claim7.holds Tryz.pinned (.plain (OpenSpec.upto rpmUsesSpec)) rpmUsesUptoCard

/-- THE SECOND FORM's CARD OF 'catnaplaw18.RpmHandles'. -/
def rpmHandlesUptoCard : Claim7 := { stood := { row := rpmHandlesUptoRow, standIns := [], harness := (true, "2294cf8d51d6a7e62c4c8c095c5c823713f6af25ee36ca38c92d0a02caf9e71c"), looks := true }, kinds := [], alts := [], laidByText := true, laidKinds := [.data], laidTests := true, laidLooks := .later }
def RpmHandlesUptoCardSaid : Prop := Claim7.holds Tryz.pinned (.plain (OpenSpec.upto rpmHandlesSpec)) rpmHandlesUptoCard
end Rows
end Go.Proofs.YtdcdccmpcmjmhaaGreatDoor
