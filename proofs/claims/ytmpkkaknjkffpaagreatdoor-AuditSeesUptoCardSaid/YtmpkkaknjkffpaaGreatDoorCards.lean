/-
  DERIVED. GIVEN WITH THE SEED: THE CARDS: each row of YtmpkkaknjkffpaaGreatDoorRows.lean that lists a variable, with what it lists TIED to the program's text (the seventh form; the later family's looks); each row that meets fmt, with fmt's text TOLD by the authors' own Lean function (tested against real Go, not proved from fmt's source: count such statements apart). THE CARD IS WHAT COUNTS. Prove the row's statement (the work); the ties are given (YtmpkkaknjkffpaaGreatDoorTie.lean); close each card by the builder's one call (the guide's Derived/Test/ToyasCard.lean, 'card_holds'). Laid BY PROGRAM, IN A SANDBOX (cutbox-door.mjs). By AI agents, Wed Nov 11 2026. No macro, syntax, notation, axiom, sorry.
-/
import Derived.Test.YtmpkkaknjkffpaaGreatDoorRows
import GoSem.ClaimSeven
namespace Go.Proofs.YtmpkkaknjkffpaaGreatDoor
namespace Rows

/-- THE TIED CARD OF 'catnaplaw19.WorldEnds'. -/
def worldEndsCard : Claim7 := { stood := { row := worldEndsRow, standIns := [], harness := (true, "b76bfb188939706515e0e03c2e17211e1922a29728091b2cbafd9c70815f5d8b"), looks := false }, kinds := [], alts := [], laidByText := true, laidKinds := [.data], laidTests := true, laidLooks := .later }
def WorldEndsCardSaid : Prop := Claim7.holds Tryz.pinned (.plain (OpenSpec.ofChange worldEndsSpec)) worldEndsCard

/-- THE TIED CARD OF 'catnaplaw20.AuditSees'. -/
def auditSeesCard : Claim7 := { stood := { row := auditSeesRow, standIns := [], harness := (true, "b76bfb188939706515e0e03c2e17211e1922a29728091b2cbafd9c70815f5d8b"), looks := false }, kinds := [], alts := [], laidByText := true, laidKinds := [.data], laidTests := true, laidLooks := .later }
def AuditSeesCardSaid : Prop := Claim7.holds Tryz.pinned (.plain (OpenSpec.ofChange auditSeesSpec)) auditSeesCard

/-- THE SECOND FORM's CARD OF 'catnaplaw19.WorldEnds'. -/
def worldEndsUptoCard : Claim7 := { stood := { row := worldEndsUptoRow, standIns := [], harness := (true, "b76bfb188939706515e0e03c2e17211e1922a29728091b2cbafd9c70815f5d8b"), looks := false }, kinds := [], alts := [], laidByText := true, laidKinds := [.data], laidTests := true, laidLooks := .later }
def WorldEndsUptoCardSaid : Prop := Claim7.holds Tryz.pinned (.plain (OpenSpec.upto worldEndsSpec)) worldEndsUptoCard

/-- THE SECOND FORM's CARD OF 'catnaplaw20.AuditSees'. -/
def auditSeesUptoCard : Claim7 := { stood := { row := auditSeesUptoRow, standIns := [], harness := (true, "b76bfb188939706515e0e03c2e17211e1922a29728091b2cbafd9c70815f5d8b"), looks := false }, kinds := [], alts := [], laidByText := true, laidKinds := [.data], laidTests := true, laidLooks := .later }
def AuditSeesUptoCardSaid : Prop := Claim7.holds Tryz.pinned (.plain (OpenSpec.upto auditSeesSpec)) auditSeesUptoCard
end Rows
end Go.Proofs.YtmpkkaknjkffpaaGreatDoor
