/-
  DERIVED. GIVEN WITH THE SEED: THE CARDS: each row of YtckdkhhpjnefpaaGreatDoorRows.lean that lists a variable, with what it lists TIED to the program's text (the seventh form; the later family's looks); each row that meets fmt, with fmt's text TOLD by the authors' own Lean function (tested against real Go, not proved from fmt's source: count such statements apart). THE CARD IS WHAT COUNTS. Prove the row's statement (the work); the ties are given (YtckdkhhpjnefpaaGreatDoorTie.lean); close each card by the builder's one call (the guide's Derived/Test/ToyasCard.lean, 'card_holds'). Laid BY PROGRAM, IN A SANDBOX (cutbox-door.mjs). By AI agents, Wed Nov 11 2026. No macro, syntax, notation, axiom, sorry.
-/
import Derived.Test.YtckdkhhpjnefpaaGreatDoorRows
import GoSem.ClaimSeven
namespace Go.Proofs.YtckdkhhpjnefpaaGreatDoor
namespace Rows

/-- THE TIED CARD OF 'coldpluglaw43.UpgradeChanges'. -/
def upgradeChangesCard : Claim7 := { stood := { row := upgradeChangesRow, standIns := [], harness := (true, "ffeacdc8a028b4685c04d313d1b4d90afe89280dc0fdba55e4612a20d008e3b3"), looks := true }, kinds := [], alts := [], laidByText := true, laidKinds := [.data, .data, .data, .data, .sentinel, .sentinel, .pinned, .pinned], laidTests := true, laidLooks := .later }
def UpgradeChangesCardSaid : Prop := Claim7.holds Tryz.pinned (.plain (OpenSpec.ofChange upgradeChangesSpec)) upgradeChangesCard

/-- THE TIED CARD OF 'coldpluglaw43.UpgradeAffects'. -/
def upgradeAffectsCard : Claim7 := { stood := { row := upgradeAffectsRow, standIns := [], harness := (true, "ffeacdc8a028b4685c04d313d1b4d90afe89280dc0fdba55e4612a20d008e3b3"), looks := true }, kinds := [], alts := [], laidByText := true, laidKinds := [.data, .data, .data, .data, .sentinel, .sentinel, .pinned, .pinned], laidTests := true, laidLooks := .later }
def UpgradeAffectsCardSaid : Prop := Claim7.holds Tryz.pinned (.plain (OpenSpec.ofChange upgradeAffectsSpec)) upgradeAffectsCard

/-- THE TIED CARD OF 'coldpluglaw43.UpgradeClosed'. -/
def upgradeClosedCard : Claim7 := { stood := { row := upgradeClosedRow, standIns := [], harness := (true, "ffeacdc8a028b4685c04d313d1b4d90afe89280dc0fdba55e4612a20d008e3b3"), looks := true }, kinds := [], alts := [], laidByText := true, laidKinds := [.data, .data, .data, .data, .sentinel, .sentinel, .pinned, .pinned], laidTests := true, laidLooks := .later }
def UpgradeClosedCardSaid : Prop := Claim7.holds Tryz.pinned (.plain (OpenSpec.ofChange upgradeClosedSpec)) upgradeClosedCard

/-- THE SECOND FORM's CARD OF 'coldpluglaw43.UpgradeChanges'. -/
def upgradeChangesUptoCard : Claim7 := { stood := { row := upgradeChangesUptoRow, standIns := [], harness := (true, "ffeacdc8a028b4685c04d313d1b4d90afe89280dc0fdba55e4612a20d008e3b3"), looks := true }, kinds := [], alts := [], laidByText := true, laidKinds := [.data, .data, .data, .data, .sentinel, .sentinel, .pinned, .pinned], laidTests := true, laidLooks := .later }
def UpgradeChangesUptoCardSaid : Prop := Claim7.holds Tryz.pinned (.plain (OpenSpec.upto upgradeChangesSpec)) upgradeChangesUptoCard

/-- THE SECOND FORM's CARD OF 'coldpluglaw43.UpgradeAffects'. -/
def upgradeAffectsUptoCard : Claim7 := { stood := { row := upgradeAffectsUptoRow, standIns := [], harness := (true, "ffeacdc8a028b4685c04d313d1b4d90afe89280dc0fdba55e4612a20d008e3b3"), looks := true }, kinds := [], alts := [], laidByText := true, laidKinds := [.data, .data, .data, .data, .sentinel, .sentinel, .pinned, .pinned], laidTests := true, laidLooks := .later }
def UpgradeAffectsUptoCardSaid : Prop := Claim7.holds Tryz.pinned (.plain (OpenSpec.upto upgradeAffectsSpec)) upgradeAffectsUptoCard

/-- THE SECOND FORM's CARD OF 'coldpluglaw43.UpgradeClosed'. -/
def upgradeClosedUptoCard : Claim7 := { stood := { row := upgradeClosedUptoRow, standIns := [], harness := (true, "ffeacdc8a028b4685c04d313d1b4d90afe89280dc0fdba55e4612a20d008e3b3"), looks := true }, kinds := [], alts := [], laidByText := true, laidKinds := [.data, .data, .data, .data, .sentinel, .sentinel, .pinned, .pinned], laidTests := true, laidLooks := .later }
def UpgradeClosedUptoCardSaid : Prop := Claim7.holds Tryz.pinned (.plain (OpenSpec.upto upgradeClosedSpec)) upgradeClosedUptoCard
end Rows
end Go.Proofs.YtckdkhhpjnefpaaGreatDoor
