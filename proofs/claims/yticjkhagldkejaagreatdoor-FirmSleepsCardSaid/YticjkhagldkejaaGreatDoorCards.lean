/-
  DERIVED. GIVEN WITH THE SEED: THE CARDS: each row of YticjkhagldkejaaGreatDoorRows.lean that lists a variable, with what it lists TIED to the program's text (the seventh form; the later family's looks); each row that meets fmt, with fmt's text TOLD by the authors' own Lean function (tested against real Go, not proved from fmt's source: count such statements apart). THE CARD IS WHAT COUNTS. Prove the row's statement (the work); the ties are given (YticjkhagldkejaaGreatDoorTie.lean); close each card by the builder's one call (the guide's Derived/Test/ToyasCard.lean, 'card_holds'). Laid BY PROGRAM, IN A SANDBOX (cutbox-door.mjs). By AI agents, Wed Nov 11 2026. No macro, syntax, notation, axiom, sorry.
-/
import Derived.Test.YticjkhagldkejaaGreatDoorRows
import GoSem.ClaimSeven
namespace Go.Proofs.YticjkhagldkejaaGreatDoor
namespace Rows

/-- THE TIED CARD OF 'catnaplaw15.FirmTurns'. -/
def firmTurnsCard : Claim7 := { stood := { row := firmTurnsRow, standIns := [], harness := (true, "0d275328a75fa5fbee87f8f5ecbc3dd3c638233c88a284e32f747adb76d32b6c"), looks := true }, kinds := [], alts := [], laidByText := true, laidKinds := [.data], laidTests := true, laidLooks := .later }
def FirmTurnsCardSaid : Prop := Claim7.holds Tryz.pinned (.plain (OpenSpec.ofChange firmTurnsSpec)) firmTurnsCard

/-- THE TIED CARD OF 'catnaplaw15.FirmRates'. -/
def firmRatesCard : Claim7 := { stood := { row := firmRatesRow, standIns := [], harness := (true, "0d275328a75fa5fbee87f8f5ecbc3dd3c638233c88a284e32f747adb76d32b6c"), looks := true }, kinds := [], alts := [], laidByText := true, laidKinds := [.data], laidTests := true, laidLooks := .later }
def FirmRatesCardSaid : Prop := Claim7.holds Tryz.pinned (.plain (OpenSpec.ofChange firmRatesSpec)) firmRatesCard

/-- THE TIED CARD OF 'catnaplaw15.FirmWakes'. -/
def firmWakesCard : Claim7 := { stood := { row := firmWakesRow, standIns := [], harness := (true, "0d275328a75fa5fbee87f8f5ecbc3dd3c638233c88a284e32f747adb76d32b6c"), looks := true }, kinds := [], alts := [], laidByText := true, laidKinds := [.data], laidTests := true, laidLooks := .later }
def FirmWakesCardSaid : Prop := Claim7.holds Tryz.pinned (.plain (OpenSpec.ofChange firmWakesSpec)) firmWakesCard

/-- THE TIED CARD OF 'catnaplaw15.FirmWords'. -/
def firmWordsCard : Claim7 := { stood := { row := firmWordsRow, standIns := [], harness := (true, "0d275328a75fa5fbee87f8f5ecbc3dd3c638233c88a284e32f747adb76d32b6c"), looks := true }, kinds := [], alts := [], laidByText := true, laidKinds := [.data], laidTests := true, laidLooks := .later }
def FirmWordsCardSaid : Prop := Claim7.holds Tryz.pinned (.plain (OpenSpec.ofChange firmWordsSpec)) firmWordsCard

/-- THE TIED CARD OF 'catnaplaw15.FirmSleeps'. -/
def firmSleepsCard : Claim7 := { stood := { row := firmSleepsRow, standIns := [], harness := (true, "0d275328a75fa5fbee87f8f5ecbc3dd3c638233c88a284e32f747adb76d32b6c"), looks := true }, kinds := [], alts := [], laidByText := true, laidKinds := [.data], laidTests := true, laidLooks := .later }
def FirmSleepsCardSaid : Prop := Claim7.holds Tryz.pinned (.plain (OpenSpec.ofChange firmSleepsSpec)) firmSleepsCard

/-- THE TIED CARD OF 'catnaplaw18.RpmKeeps'. -/
def rpmKeepsCard : Claim7 := { stood := { row := rpmKeepsRow, standIns := [], harness := (true, "0d275328a75fa5fbee87f8f5ecbc3dd3c638233c88a284e32f747adb76d32b6c"), looks := true }, kinds := [], alts := [], laidByText := true, laidKinds := [.data], laidTests := true, laidLooks := .later }
def RpmKeepsCardSaid : Prop := Claim7.holds Tryz.pinned (.plain (OpenSpec.ofChange rpmKeepsSpec)) rpmKeepsCard

/-- THE TIED CARD OF 'catnaplaw18.RpmNeeds'. -/
def rpmNeedsCard : Claim7 := { stood := { row := rpmNeedsRow, standIns := [], harness := (true, "0d275328a75fa5fbee87f8f5ecbc3dd3c638233c88a284e32f747adb76d32b6c"), looks := true }, kinds := [], alts := [], laidByText := true, laidKinds := [.data], laidTests := true, laidLooks := .later }
def RpmNeedsCardSaid : Prop := Claim7.holds Tryz.pinned (.plain (OpenSpec.ofChange rpmNeedsSpec)) rpmNeedsCard

/-- THE TIED CARD OF 'catnaplaw18.RpmOne'. -/
def rpmOneCard : Claim7 := { stood := { row := rpmOneRow, standIns := [], harness := (true, "0d275328a75fa5fbee87f8f5ecbc3dd3c638233c88a284e32f747adb76d32b6c"), looks := true }, kinds := [], alts := [], laidByText := true, laidKinds := [.data], laidTests := true, laidLooks := .later }
def RpmOneCardSaid : Prop := Claim7.holds Tryz.pinned (.plain (OpenSpec.ofChange rpmOneSpec)) rpmOneCard

/-- THE TIED CARD OF 'catnaplaw18.RpmUses'. -/
def rpmUsesCard : Claim7 := { stood := { row := rpmUsesRow, standIns := [], harness := (true, "0d275328a75fa5fbee87f8f5ecbc3dd3c638233c88a284e32f747adb76d32b6c"), looks := true }, kinds := [], alts := [], laidByText := true, laidKinds := [.data], laidTests := true, laidLooks := .later }
def RpmUsesCardSaid : Prop := Claim7.holds Tryz.pinned (.plain (OpenSpec.ofChange rpmUsesSpec)) rpmUsesCard

/-- THE TIED CARD OF 'catnaplaw18.RpmHandles'. -/
def rpmHandlesCard : Claim7 := { stood := { row := rpmHandlesRow, standIns := [], harness := (true, "0d275328a75fa5fbee87f8f5ecbc3dd3c638233c88a284e32f747adb76d32b6c"), looks := true }, kinds := [], alts := [], laidByText := true, laidKinds := [.data], laidTests := true, laidLooks := .later }
def RpmHandlesCardSaid : Prop := Claim7.holds Tryz.pinned (.plain (OpenSpec.ofChange rpmHandlesSpec)) rpmHandlesCard

/-- THE SECOND FORM's CARD OF 'catnaplaw15.FirmTurns'. -/
def firmTurnsUptoCard : Claim7 := { stood := { row := firmTurnsUptoRow, standIns := [], harness := (true, "0d275328a75fa5fbee87f8f5ecbc3dd3c638233c88a284e32f747adb76d32b6c"), looks := true }, kinds := [], alts := [], laidByText := true, laidKinds := [.data], laidTests := true, laidLooks := .later }
def FirmTurnsUptoCardSaid : Prop := Claim7.holds Tryz.pinned (.plain (OpenSpec.upto firmTurnsSpec)) firmTurnsUptoCard

/-- THE SECOND FORM's CARD OF 'catnaplaw15.FirmRates'. -/
def firmRatesUptoCard : Claim7 := { stood := { row := firmRatesUptoRow, standIns := [], harness := (true, "0d275328a75fa5fbee87f8f5ecbc3dd3c638233c88a284e32f747adb76d32b6c"), looks := true }, kinds := [], alts := [], laidByText := true, laidKinds := [.data], laidTests := true, laidLooks := .later }
def FirmRatesUptoCardSaid : Prop := Claim7.holds Tryz.pinned (.plain (OpenSpec.upto firmRatesSpec)) firmRatesUptoCard

/-- THE SECOND FORM's CARD OF 'catnaplaw15.FirmWakes'. -/
def firmWakesUptoCard : Claim7 := { stood := { row := firmWakesUptoRow, standIns := [], harness := (true, "0d275328a75fa5fbee87f8f5ecbc3dd3c638233c88a284e32f747adb76d32b6c"), looks := true }, kinds := [], alts := [], laidByText := true, laidKinds := [.data], laidTests := true, laidLooks := .later }
def FirmWakesUptoCardSaid : Prop := Claim7.holds Tryz.pinned (.plain (OpenSpec.upto firmWakesSpec)) firmWakesUptoCard

/-- THE SECOND FORM's CARD OF 'catnaplaw15.FirmWords'. -/
def firmWordsUptoCard : Claim7 := { stood := { row := firmWordsUptoRow, standIns := [], harness := (true, "0d275328a75fa5fbee87f8f5ecbc3dd3c638233c88a284e32f747adb76d32b6c"), looks := true }, kinds := [], alts := [], laidByText := true, laidKinds := [.data], laidTests := true, laidLooks := .later }
def FirmWordsUptoCardSaid : Prop := Claim7.holds Tryz.pinned (.plain (OpenSpec.upto firmWordsSpec)) firmWordsUptoCard

/-- THE SECOND FORM's CARD OF 'catnaplaw15.FirmSleeps'. -/
def firmSleepsUptoCard : Claim7 := { stood := { row := firmSleepsUptoRow, standIns := [], harness := (true, "0d275328a75fa5fbee87f8f5ecbc3dd3c638233c88a284e32f747adb76d32b6c"), looks := true }, kinds := [], alts := [], laidByText := true, laidKinds := [.data], laidTests := true, laidLooks := .later }
def FirmSleepsUptoCardSaid : Prop := Claim7.holds Tryz.pinned (.plain (OpenSpec.upto firmSleepsSpec)) firmSleepsUptoCard

/-- THE SECOND FORM's CARD OF 'catnaplaw18.RpmKeeps'. -/
def rpmKeepsUptoCard : Claim7 := { stood := { row := rpmKeepsUptoRow, standIns := [], harness := (true, "0d275328a75fa5fbee87f8f5ecbc3dd3c638233c88a284e32f747adb76d32b6c"), looks := true }, kinds := [], alts := [], laidByText := true, laidKinds := [.data], laidTests := true, laidLooks := .later }
def RpmKeepsUptoCardSaid : Prop := Claim7.holds Tryz.pinned (.plain (OpenSpec.upto rpmKeepsSpec)) rpmKeepsUptoCard

/-- THE SECOND FORM's CARD OF 'catnaplaw18.RpmNeeds'. -/
def rpmNeedsUptoCard : Claim7 := { stood := { row := rpmNeedsUptoRow, standIns := [], harness := (true, "0d275328a75fa5fbee87f8f5ecbc3dd3c638233c88a284e32f747adb76d32b6c"), looks := true }, kinds := [], alts := [], laidByText := true, laidKinds := [.data], laidTests := true, laidLooks := .later }
def RpmNeedsUptoCardSaid : Prop := Claim7.holds Tryz.pinned (.plain (OpenSpec.upto rpmNeedsSpec)) rpmNeedsUptoCard

/-- THE SECOND FORM's CARD OF 'catnaplaw18.RpmOne'. -/
def rpmOneUptoCard : Claim7 := { stood := { row := rpmOneUptoRow, standIns := [], harness := (true, "0d275328a75fa5fbee87f8f5ecbc3dd3c638233c88a284e32f747adb76d32b6c"), looks := true }, kinds := [], alts := [], laidByText := true, laidKinds := [.data], laidTests := true, laidLooks := .later }
def RpmOneUptoCardSaid : Prop := Claim7.holds Tryz.pinned (.plain (OpenSpec.upto rpmOneSpec)) rpmOneUptoCard

/-- THE SECOND FORM's CARD OF 'catnaplaw18.RpmUses'. -/
def rpmUsesUptoCard : Claim7 := { stood := { row := rpmUsesUptoRow, standIns := [], harness := (true, "0d275328a75fa5fbee87f8f5ecbc3dd3c638233c88a284e32f747adb76d32b6c"), looks := true }, kinds := [], alts := [], laidByText := true, laidKinds := [.data], laidTests := true, laidLooks := .later }
def RpmUsesUptoCardSaid : Prop := Claim7.holds Tryz.pinned (.plain (OpenSpec.upto rpmUsesSpec)) rpmUsesUptoCard

/-- THE SECOND FORM's CARD OF 'catnaplaw18.RpmHandles'. -/
def rpmHandlesUptoCard : Claim7 := { stood := { row := rpmHandlesUptoRow, standIns := [], harness := (true, "0d275328a75fa5fbee87f8f5ecbc3dd3c638233c88a284e32f747adb76d32b6c"), looks := true }, kinds := [], alts := [], laidByText := true, laidKinds := [.data], laidTests := true, laidLooks := .later }
def RpmHandlesUptoCardSaid : Prop := Claim7.holds Tryz.pinned (.plain (OpenSpec.upto rpmHandlesSpec)) rpmHandlesUptoCard
end Rows
end Go.Proofs.YticjkhagldkejaaGreatDoor
