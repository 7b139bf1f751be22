/-
  DERIVED. GIVEN WITH THE SEED: THE CARDS: each row of YtgopaoidgcgalaaGreatDoorRows.lean that lists a variable, with what it lists TIED to the program's text (the seventh form; the later family's looks); each row that meets fmt, with fmt's text TOLD by the authors' own Lean function (tested against real Go, not proved from fmt's source: count such statements apart). THE CARD IS WHAT COUNTS. Prove the row's statement (the work); the ties are given (YtgopaoidgcgalaaGreatDoorTie.lean); close each card by the builder's one call (the guide's Derived/Test/ToyasCard.lean, 'card_holds'). Laid BY PROGRAM, IN A SANDBOX (cutbox-door.mjs). By AI agents, Wed Nov 11 2026. No macro, syntax, notation, axiom, sorry.
-/
import Derived.Test.YtgopaoidgcgalaaGreatDoorRows
import GoSem.ClaimSeven
namespace Go.Proofs.YtgopaoidgcgalaaGreatDoor
namespace Rows

/-- THE TIED CARD OF 'catnaplaw5.LinesParse'. -/
def linesParseCard : Claim7 := { stood := { row := linesParseRow, standIns := [], harness := (true, "be716dfe2e23d597248ef19c4b8a4ff527537158c3fd1784bc1065ba5f6f658e"), looks := false }, kinds := [], alts := [], laidByText := true, laidKinds := [.data, .pinned], laidTests := true, laidLooks := .later }
def LinesParseCardSaid : Prop := Claim7.holds Tryz.pinned (.plain (OpenSpec.ofChange linesParseSpec)) linesParseCard

/-- THE TIED CARD OF 'catnaplaw5.LinesPrint'. -/
def linesPrintCard : Claim7 := { stood := { row := linesPrintRow, standIns := [], harness := (true, "be716dfe2e23d597248ef19c4b8a4ff527537158c3fd1784bc1065ba5f6f658e"), looks := false }, kinds := [], alts := [], laidByText := true, laidKinds := [.data, .data, .data, .data, .pinned], laidTests := true, laidLooks := .later }
def LinesPrintCardSaid : Prop := Claim7.holds Tryz.pinned (.plain (OpenSpec.ofChange linesPrintSpec)) linesPrintCard

/-- THE TIED CARD OF 'catnaplaw5.LinesErrs'. -/
def linesErrsCard : Claim7 := { stood := { row := linesErrsRow, standIns := [], harness := (true, "be716dfe2e23d597248ef19c4b8a4ff527537158c3fd1784bc1065ba5f6f658e"), looks := false }, kinds := [], alts := [], laidByText := true, laidKinds := [.data, .data, .data, .data, .pinned], laidTests := true, laidLooks := .later }
def LinesErrsCardSaid : Prop := Claim7.holds Tryz.pinned (.plain (OpenSpec.ofChange linesErrsSpec)) linesErrsCard

/-- THE TIED CARD OF 'catnaplaw5.LinesBack'. -/
def linesBackCard : Claim7 := { stood := { row := linesBackRow, standIns := [], harness := (true, "be716dfe2e23d597248ef19c4b8a4ff527537158c3fd1784bc1065ba5f6f658e"), looks := false }, kinds := [], alts := [], laidByText := true, laidKinds := [.data, .data, .data, .data, .pinned], laidTests := true, laidLooks := .later }
def LinesBackCardSaid : Prop := Claim7.holds Tryz.pinned (.plain (OpenSpec.ofChange linesBackSpec)) linesBackCard

/-- THE TIED CARD OF 'catnaplaw5.LinesStrict'. -/
def linesStrictCard : Claim7 := { stood := { row := linesStrictRow, standIns := [], harness := (true, "be716dfe2e23d597248ef19c4b8a4ff527537158c3fd1784bc1065ba5f6f658e"), looks := false }, kinds := [], alts := [], laidByText := true, laidKinds := [.data, .data, .data, .data, .pinned], laidTests := true, laidLooks := .later }
def LinesStrictCardSaid : Prop := Claim7.holds Tryz.pinned (.plain (OpenSpec.ofChange linesStrictSpec)) linesStrictCard

/-- THE TIED CARD OF 'catnaplaw5.LinesOrder'. -/
def linesOrderCard : Claim7 := { stood := { row := linesOrderRow, standIns := [], harness := (true, "be716dfe2e23d597248ef19c4b8a4ff527537158c3fd1784bc1065ba5f6f658e"), looks := false }, kinds := [], alts := [], laidByText := true, laidKinds := [.data, .data, .data, .data, .pinned], laidTests := true, laidLooks := .later }
def LinesOrderCardSaid : Prop := Claim7.holds Tryz.pinned (.plain (OpenSpec.ofChange linesOrderSpec)) linesOrderCard

/-- THE TIED CARD OF 'catnaplaw5.LinesSame'. -/
def linesSameCard : Claim7 := { stood := { row := linesSameRow, standIns := [], harness := (true, "be716dfe2e23d597248ef19c4b8a4ff527537158c3fd1784bc1065ba5f6f658e"), looks := false }, kinds := [], alts := [], laidByText := true, laidKinds := [.data, .data, .data, .data, .pinned], laidTests := true, laidLooks := .later }
def LinesSameCardSaid : Prop := Claim7.holds Tryz.pinned (.plain (OpenSpec.ofChange linesSameSpec)) linesSameCard

/-- THE SECOND FORM's CARD OF 'catnaplaw5.LinesParse'. -/
def linesParseUptoCard : Claim7 := { stood := { row := linesParseUptoRow, standIns := [], harness := (true, "be716dfe2e23d597248ef19c4b8a4ff527537158c3fd1784bc1065ba5f6f658e"), looks := false }, kinds := [], alts := [], laidByText := true, laidKinds := [.data, .pinned], laidTests := true, laidLooks := .later }
def LinesParseUptoCardSaid : Prop := Claim7.holds Tryz.pinned (.plain (OpenSpec.upto linesParseSpec)) linesParseUptoCard

/-- THE SECOND FORM's CARD OF 'catnaplaw5.LinesPrint'. -/
def linesPrintUptoCard : Claim7 := { stood := { row := linesPrintUptoRow, standIns := [], harness := (true, "be716dfe2e23d597248ef19c4b8a4ff527537158c3fd1784bc1065ba5f6f658e"), looks := false }, kinds := [], alts := [], laidByText := true, laidKinds := [.data, .data, .data, .data, .pinned], laidTests := true, laidLooks := .later }
def LinesPrintUptoCardSaid : Prop := Claim7.holds Tryz.pinned (.plain (OpenSpec.upto linesPrintSpec)) linesPrintUptoCard

/-- THE SECOND FORM's CARD OF 'catnaplaw5.LinesErrs'. -/
def linesErrsUptoCard : Claim7 := { stood := { row := linesErrsUptoRow, standIns := [], harness := (true, "be716dfe2e23d597248ef19c4b8a4ff527537158c3fd1784bc1065ba5f6f658e"), looks := false }, kinds := [], alts := [], laidByText := true, laidKinds := [.data, .data, .data, .data, .pinned], laidTests := true, laidLooks := .later }
def LinesErrsUptoCardSaid : Prop := Claim7.holds Tryz.pinned (.plain (OpenSpec.upto linesErrsSpec)) linesErrsUptoCard

/-- THE SECOND FORM's CARD OF 'catnaplaw5.LinesBack'. -/
def linesBackUptoCard : Claim7 := { stood := { row := linesBackUptoRow, standIns := [], harness := (true, "be716dfe2e23d597248ef19c4b8a4ff527537158c3fd1784bc1065ba5f6f658e"), looks := false }, kinds := [], alts := [], laidByText := true, laidKinds := [.data, .data, .data, .data, .pinned], laidTests := true, laidLooks := .later }
def LinesBackUptoCardSaid : Prop := Claim7.holds Tryz.pinned (.plain (OpenSpec.upto linesBackSpec)) linesBackUptoCard

/-- THE SECOND FORM's CARD OF 'catnaplaw5.LinesStrict'. -/
def linesStrictUptoCard : Claim7 := { stood := { row := linesStrictUptoRow, standIns := [], harness := (true, "be716dfe2e23d597248ef19c4b8a4ff527537158c3fd1784bc1065ba5f6f658e"), looks := false }, kinds := [], alts := [], laidByText := true, laidKinds := [.data, .data, .data, .data, .pinned], laidTests := true, laidLooks := .later }
def LinesStrictUptoCardSaid : Prop := Claim7.holds Tryz.pinned (.plain (OpenSpec.upto linesStrictSpec)) linesStrictUptoCard

/-- THE SECOND FORM's CARD OF 'catnaplaw5.LinesOrder'. -/
def linesOrderUptoCard : Claim7 := { stood := { row := linesOrderUptoRow, standIns := [], harness := (true, "be716dfe2e23d597248ef19c4b8a4ff527537158c3fd1784bc1065ba5f6f658e"), looks := false }, kinds := [], alts := [], laidByText := true, laidKinds := [.data, .data, .data, .data, .pinned], laidTests := true, laidLooks := .later }
def LinesOrderUptoCardSaid : Prop := Claim7.holds Tryz.pinned (.plain (OpenSpec.upto linesOrderSpec)) linesOrderUptoCard

/-- THE SECOND FORM's CARD OF 'catnaplaw5.LinesSame'. -/
def linesSameUptoCard : Claim7 := { stood := { row := linesSameUptoRow, standIns := [], harness := (true, "be716dfe2e23d597248ef19c4b8a4ff527537158c3fd1784bc1065ba5f6f658e"), looks := false }, kinds := [], alts := [], laidByText := true, laidKinds := [.data, .data, .data, .data, .pinned], laidTests := true, laidLooks := .later }
def LinesSameUptoCardSaid : Prop := Claim7.holds Tryz.pinned (.plain (OpenSpec.upto linesSameSpec)) linesSameUptoCard
end Rows
end Go.Proofs.YtgopaoidgcgalaaGreatDoor
