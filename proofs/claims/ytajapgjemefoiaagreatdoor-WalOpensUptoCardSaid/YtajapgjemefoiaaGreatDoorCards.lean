/-
  DERIVED. GIVEN WITH THE SEED: THE CARDS: each row of YtajapgjemefoiaaGreatDoorRows.lean that lists a variable, with what it lists TIED to the program's text (the seventh form; the later family's looks); each row that meets fmt, with fmt's text TOLD by the authors' own Lean function (tested against real Go, not proved from fmt's source: count such statements apart). THE CARD IS WHAT COUNTS. Prove the row's statement (the work); the ties are given (YtajapgjemefoiaaGreatDoorTie.lean); close each card by the builder's one call (the guide's Derived/Test/ToyasCard.lean, 'card_holds'). Laid BY PROGRAM, IN A SANDBOX (cutbox-door.mjs). By AI agents, Wed Nov 11 2026. No macro, syntax, notation, axiom, sorry.
-/
import Derived.Test.YtajapgjemefoiaaGreatDoorRows
import GoSem.ClaimSeven
namespace Go.Proofs.YtajapgjemefoiaaGreatDoor
namespace Rows

/-- THE TIED CARD OF 'muntinlaw19.WalOpens'. -/
def walOpensCard : Claim7 := { stood := { row := walOpensRow, standIns := [], harness := (true, "d6124bed5421f44e7420b202cfc3185a62493d2f73a926a45c950248382722bb"), looks := true }, kinds := [], alts := [], laidByText := true, laidKinds := [.data, .data, .data, .handle], laidTests := true, laidLooks := .later }
def WalOpensCardSaid : Prop := Claim7.holds Tryz.pinned (.plain (OpenSpec.ofChange walOpensSpec)) walOpensCard

/-- THE TIED CARD OF 'muntinlaw19.WalNothing'. -/
def walNothingCard : Claim7 := { stood := { row := walNothingRow, standIns := [], harness := (true, "d6124bed5421f44e7420b202cfc3185a62493d2f73a926a45c950248382722bb"), looks := true }, kinds := [], alts := [], laidByText := true, laidKinds := [.data, .data, .data, .handle], laidTests := true, laidLooks := .later }
def WalNothingCardSaid : Prop := Claim7.holds Tryz.pinned (.plain (OpenSpec.ofChange walNothingSpec)) walNothingCard

/-- THE TIED CARD OF 'muntinlaw19.WalLasts'. -/
def walLastsCard : Claim7 := { stood := { row := walLastsRow, standIns := [], harness := (true, "d6124bed5421f44e7420b202cfc3185a62493d2f73a926a45c950248382722bb"), looks := true }, kinds := [], alts := [], laidByText := true, laidKinds := [.data, .data, .data, .handle], laidTests := true, laidLooks := .later }
def WalLastsCardSaid : Prop := Claim7.holds Tryz.pinned (.plain (OpenSpec.ofChange walLastsSpec)) walLastsCard

/-- THE TIED CARD OF 'muntinlaw19.WalTorn'. -/
def walTornCard : Claim7 := { stood := { row := walTornRow, standIns := [], harness := (true, "d6124bed5421f44e7420b202cfc3185a62493d2f73a926a45c950248382722bb"), looks := true }, kinds := [], alts := [], laidByText := true, laidKinds := [.data, .data, .data, .handle], laidTests := true, laidLooks := .later }
def WalTornCardSaid : Prop := Claim7.holds Tryz.pinned (.plain (OpenSpec.ofChange walTornSpec)) walTornCard

/-- THE SECOND FORM's CARD OF 'muntinlaw19.WalOpens'. -/
def walOpensUptoCard : Claim7 := { stood := { row := walOpensUptoRow, standIns := [], harness := (true, "d6124bed5421f44e7420b202cfc3185a62493d2f73a926a45c950248382722bb"), looks := true }, kinds := [], alts := [], laidByText := true, laidKinds := [.data, .data, .data, .handle], laidTests := true, laidLooks := .later }
def WalOpensUptoCardSaid : Prop := Claim7.holds Tryz.pinned (.plain (OpenSpec.upto walOpensSpec)) walOpensUptoCard

/-- THE SECOND FORM's CARD OF 'muntinlaw19.WalNothing'. -/
def walNothingUptoCard : Claim7 := { stood := { row := walNothingUptoRow, standIns := [], harness := (true, "d6124bed5421f44e7420b202cfc3185a62493d2f73a926a45c950248382722bb"), looks := true }, kinds := [], alts := [], laidByText := true, laidKinds := [.data, .data, .data, .handle], laidTests := true, laidLooks := .later }
def WalNothingUptoCardSaid : Prop := Claim7.holds Tryz.pinned (.plain (OpenSpec.upto walNothingSpec)) walNothingUptoCard

/-- THE SECOND FORM's CARD OF 'muntinlaw19.WalLasts'. -/
def walLastsUptoCard : Claim7 := { stood := { row := walLastsUptoRow, standIns := [], harness := (true, "d6124bed5421f44e7420b202cfc3185a62493d2f73a926a45c950248382722bb"), looks := true }, kinds := [], alts := [], laidByText := true, laidKinds := [.data, .data, .data, .handle], laidTests := true, laidLooks := .later }
def WalLastsUptoCardSaid : Prop := Claim7.holds Tryz.pinned (.plain (OpenSpec.upto walLastsSpec)) walLastsUptoCard

/-- THE SECOND FORM's CARD OF 'muntinlaw19.WalTorn'. -/
def walTornUptoCard : Claim7 := { stood := { row := walTornUptoRow, standIns := [], harness := (true, "d6124bed5421f44e7420b202cfc3185a62493d2f73a926a45c950248382722bb"), looks := true }, kinds := [], alts := [], laidByText := true, laidKinds := [.data, .data, .data, .handle], laidTests := true, laidLooks := .later }
def WalTornUptoCardSaid : Prop := Claim7.holds Tryz.pinned (.plain (OpenSpec.upto walTornSpec)) walTornUptoCard
end Rows
end Go.Proofs.YtajapgjemefoiaaGreatDoor
