/-
  DERIVED. GIVEN WITH THE SEED: THE CARDS: each row of YtkgekojkboingaaGreatDoorRows.lean that lists a variable, with what it lists TIED to the program's text (the seventh form; the later family's looks); each row that meets fmt, with fmt's text TOLD by the authors' own Lean function (tested against real Go, not proved from fmt's source: count such statements apart). THE CARD IS WHAT COUNTS. Prove the row's statement (the work); the ties are given (YtkgekojkboingaaGreatDoorTie.lean); close each card by the builder's one call (the guide's Derived/Test/ToyasCard.lean, 'card_holds'). Laid BY PROGRAM, IN A SANDBOX (cutbox-door.mjs). By AI agents, Wed Nov 11 2026. No macro, syntax, notation, axiom, sorry.
-/
import Derived.Test.YtkgekojkboingaaGreatDoorRows
import GoSem.ClaimSeven
namespace Go.Proofs.YtkgekojkboingaaGreatDoor
namespace Rows

/-- THE TIED CARD OF 'catnaplaw19.WorldReplies'. -/
def worldRepliesCard : Claim7 := { stood := { row := worldRepliesRow, standIns := [], harness := (true, "b096db64baecd6ae64c6c882e9181f4a392e35413c1f2852e5b69a5e5873d755"), looks := false }, kinds := [], alts := [], laidByText := true, laidKinds := [.data], laidTests := true, laidLooks := .later }
def WorldRepliesCardSaid : Prop := Claim7.holds Tryz.pinned (.plain (OpenSpec.ofChange worldRepliesSpec)) worldRepliesCard

/-- THE TIED CARD OF 'catnaplaw19.WorldNests'. -/
def worldNestsCard : Claim7 := { stood := { row := worldNestsRow, standIns := [], harness := (true, "b096db64baecd6ae64c6c882e9181f4a392e35413c1f2852e5b69a5e5873d755"), looks := false }, kinds := [], alts := [], laidByText := true, laidKinds := [.data], laidTests := true, laidLooks := .later }
def WorldNestsCardSaid : Prop := Claim7.holds Tryz.pinned (.plain (OpenSpec.ofChange worldNestsSpec)) worldNestsCard

/-- THE TIED CARD OF 'catnaplaw19.WorldRounds'. -/
def worldRoundsCard : Claim7 := { stood := { row := worldRoundsRow, standIns := [], harness := (true, "b096db64baecd6ae64c6c882e9181f4a392e35413c1f2852e5b69a5e5873d755"), looks := false }, kinds := [], alts := [], laidByText := true, laidKinds := [.data], laidTests := true, laidLooks := .later }
def WorldRoundsCardSaid : Prop := Claim7.holds Tryz.pinned (.plain (OpenSpec.ofChange worldRoundsSpec)) worldRoundsCard

/-- THE TIED CARD OF 'catnaplaw19.WorldTwice'. -/
def worldTwiceCard : Claim7 := { stood := { row := worldTwiceRow, standIns := [], harness := (true, "b096db64baecd6ae64c6c882e9181f4a392e35413c1f2852e5b69a5e5873d755"), looks := false }, kinds := [], alts := [], laidByText := true, laidKinds := [.data], laidTests := true, laidLooks := .later }
def WorldTwiceCardSaid : Prop := Claim7.holds Tryz.pinned (.plain (OpenSpec.ofChange worldTwiceSpec)) worldTwiceCard

/-- THE TIED CARD OF 'catnaplaw19.WorldEnds'. -/
def worldEndsCard : Claim7 := { stood := { row := worldEndsRow, standIns := [], harness := (true, "b096db64baecd6ae64c6c882e9181f4a392e35413c1f2852e5b69a5e5873d755"), looks := false }, kinds := [], alts := [], laidByText := true, laidKinds := [.data], laidTests := true, laidLooks := .later }
def WorldEndsCardSaid : Prop := Claim7.holds Tryz.pinned (.plain (OpenSpec.ofChange worldEndsSpec)) worldEndsCard

/-- THE SECOND FORM's CARD OF 'catnaplaw19.WorldReplies'. -/
def worldRepliesUptoCard : Claim7 := { stood := { row := worldRepliesUptoRow, standIns := [], harness := (true, "b096db64baecd6ae64c6c882e9181f4a392e35413c1f2852e5b69a5e5873d755"), looks := false }, kinds := [], alts := [], laidByText := true, laidKinds := [.data], laidTests := true, laidLooks := .later }
def WorldRepliesUptoCardSaid : Prop := Claim7.holds Tryz.pinned (.plain (OpenSpec.upto worldRepliesSpec)) worldRepliesUptoCard

/-- THE SECOND FORM's CARD OF 'catnaplaw19.WorldNests'. -/
def worldNestsUptoCard : Claim7 := { stood := { row := worldNestsUptoRow, standIns := [], harness := (true, "b096db64baecd6ae64c6c882e9181f4a392e35413c1f2852e5b69a5e5873d755"), looks := false }, kinds := [], alts := [], laidByText := true, laidKinds := [.data], laidTests := true, laidLooks := .later }
def WorldNestsUptoCardSaid : Prop := Claim7.holds Tryz.pinned (.plain (OpenSpec.upto worldNestsSpec)) worldNestsUptoCard

/-- THE SECOND FORM's CARD OF 'catnaplaw19.WorldRounds'. -/
def worldRoundsUptoCard : Claim7 := { stood := { row := worldRoundsUptoRow, standIns := [], harness := (true, "b096db64baecd6ae64c6c882e9181f4a392e35413c1f2852e5b69a5e5873d755"), looks := false }, kinds := [], alts := [], laidByText := true, laidKinds := [.data], laidTests := true, laidLooks := .later }
def WorldRoundsUptoCardSaid : Prop := Claim7.holds Tryz.pinned (.plain (OpenSpec.upto worldRoundsSpec)) worldRoundsUptoCard

/-- THE SECOND FORM's CARD OF 'catnaplaw19.WorldTwice'. -/
def worldTwiceUptoCard : Claim7 := { stood := { row := worldTwiceUptoRow, standIns := [], harness := (true, "b096db64baecd6ae64c6c882e9181f4a392e35413c1f2852e5b69a5e5873d755"), looks := false }, kinds := [], alts := [], laidByText := true, laidKinds := [.data], laidTests := true, laidLooks := .later }
def WorldTwiceUptoCardSaid : Prop := Claim7.holds Tryz.pinned (.plain (OpenSpec.upto worldTwiceSpec)) worldTwiceUptoCard

/-- THE SECOND FORM's CARD OF 'catnaplaw19.WorldEnds'. -/
def worldEndsUptoCard : Claim7 := { stood := { row := worldEndsUptoRow, standIns := [], harness := (true, "b096db64baecd6ae64c6c882e9181f4a392e35413c1f2852e5b69a5e5873d755"), looks := false }, kinds := [], alts := [], laidByText := true, laidKinds := [.data], laidTests := true, laidLooks := .later }
def WorldEndsUptoCardSaid : Prop := Claim7.holds Tryz.pinned (.plain (OpenSpec.upto worldEndsSpec)) worldEndsUptoCard
end Rows
end Go.Proofs.YtkgekojkboingaaGreatDoor
