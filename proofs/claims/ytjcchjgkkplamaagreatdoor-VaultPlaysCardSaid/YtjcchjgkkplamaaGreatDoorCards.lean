/-
  DERIVED. GIVEN WITH THE SEED: THE CARDS: each row of YtjcchjgkkplamaaGreatDoorRows.lean that lists a variable, with what it lists TIED to the program's text (the seventh form; the later family's looks); each row that meets fmt, with fmt's text TOLD by the authors' own Lean function (tested against real Go, not proved from fmt's source: count such statements apart). THE CARD IS WHAT COUNTS. Prove the row's statement (the work); the ties are given (YtjcchjgkkplamaaGreatDoorTie.lean); close each card by the builder's one call (the guide's Derived/Test/ToyasCard.lean, 'card_holds'). Laid BY PROGRAM, IN A SANDBOX (cutbox-door.mjs). By AI agents, Wed Nov 11 2026. No macro, syntax, notation, axiom, sorry.
-/
import Derived.Test.YtjcchjgkkplamaaGreatDoorRows
import GoSem.ClaimSeven
namespace Go.Proofs.YtjcchjgkkplamaaGreatDoor
namespace Rows

/-- THE TIED CARD OF 'muntinlaw20.VaultLasts'. -/
def vaultLastsCard : Claim7 := { stood := { row := vaultLastsRow, standIns := [], harness := (true, "469af8f4676aa80cd44686b914779d45ed595a2f8dd8246f5def7581e89b73ed"), looks := true }, kinds := [], alts := [], laidByText := true, laidKinds := [.handle], laidTests := true, laidLooks := .later }
def VaultLastsCardSaid : Prop := Claim7.holds Tryz.pinned (.plain (OpenSpec.ofChange vaultLastsSpec)) vaultLastsCard

/-- THE TIED CARD OF 'muntinlaw20.VaultPlays'. -/
def vaultPlaysCard : Claim7 := { stood := { row := vaultPlaysRow, standIns := [], harness := (true, "469af8f4676aa80cd44686b914779d45ed595a2f8dd8246f5def7581e89b73ed"), looks := true }, kinds := [], alts := [], laidByText := true, laidKinds := [.handle], laidTests := true, laidLooks := .later }
def VaultPlaysCardSaid : Prop := Claim7.holds Tryz.pinned (.plain (OpenSpec.ofChange vaultPlaysSpec)) vaultPlaysCard

/-- THE SECOND FORM's CARD OF 'muntinlaw20.VaultLasts'. -/
def vaultLastsUptoCard : Claim7 := { stood := { row := vaultLastsUptoRow, standIns := [], harness := (true, "469af8f4676aa80cd44686b914779d45ed595a2f8dd8246f5def7581e89b73ed"), looks := true }, kinds := [], alts := [], laidByText := true, laidKinds := [.handle], laidTests := true, laidLooks := .later }
def VaultLastsUptoCardSaid : Prop := Claim7.holds Tryz.pinned (.plain (OpenSpec.upto vaultLastsSpec)) vaultLastsUptoCard

/-- THE SECOND FORM's CARD OF 'muntinlaw20.VaultPlays'. -/
def vaultPlaysUptoCard : Claim7 := { stood := { row := vaultPlaysUptoRow, standIns := [], harness := (true, "469af8f4676aa80cd44686b914779d45ed595a2f8dd8246f5def7581e89b73ed"), looks := true }, kinds := [], alts := [], laidByText := true, laidKinds := [.handle], laidTests := true, laidLooks := .later }
def VaultPlaysUptoCardSaid : Prop := Claim7.holds Tryz.pinned (.plain (OpenSpec.upto vaultPlaysSpec)) vaultPlaysUptoCard
end Rows
end Go.Proofs.YtjcchjgkkplamaaGreatDoor
