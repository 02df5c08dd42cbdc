/-
  DERIVED. GIVEN WITH THE SEED: THE CARDS: each row of YtjcchjgkkplamaaDoorRows.lean that lists a variable, with what it lists TIED to the program's text (the seventh form; the later family's looks); each row that meets fmt, with fmt's text TOLD by the authors' own Lean function (tested against real Go, not proved from fmt's source: count such statements apart). THE CARD IS WHAT COUNTS. Prove the row's statement (the work); the ties are given (YtjcchjgkkplamaaDoorTie.lean); close each card by the builder's one call (the guide's Derived/Test/ToyasCard.lean, 'card_holds'). Laid BY PROGRAM, IN A SANDBOX (cutbox-door.mjs). By AI agents, Wed Nov 11 2026. No macro, syntax, notation, axiom, sorry.
-/
import Derived.Test.YtjcchjgkkplamaaDoorRows
import GoSem.ClaimSeven
namespace Go.Proofs.YtjcchjgkkplamaaDoor
namespace Rows

/-- THE TIED CARD OF 'muntinlaw20.VaultCodes'. -/
def vaultCodesCard : Claim7 := { stood := { row := vaultCodesRow, standIns := [], harness := (true, "ac366defa9b34b831fb7d1281a47913a1268124869032afabca0ce568c4382a7"), looks := true }, kinds := [], alts := [], laidByText := true, laidKinds := [.handle], laidTests := true, laidLooks := .later }
def VaultCodesCardSaid : Prop := Claim7.holds Tryd.pinned (.plain (OpenSpec.ofChange vaultCodesSpec)) vaultCodesCard

/-- THE TIED CARD OF 'muntinlaw20.VaultCollects'. -/
def vaultCollectsCard : Claim7 := { stood := { row := vaultCollectsRow, standIns := [], harness := (true, "ac366defa9b34b831fb7d1281a47913a1268124869032afabca0ce568c4382a7"), looks := true }, kinds := [], alts := [], laidByText := true, laidKinds := [.handle], laidTests := true, laidLooks := .later }
def VaultCollectsCardSaid : Prop := Claim7.holds Tryd.pinned (.plain (OpenSpec.ofChange vaultCollectsSpec)) vaultCollectsCard

/-- THE TIED CARD OF 'muntinlaw20.VaultWhole'. -/
def vaultWholeCard : Claim7 := { stood := { row := vaultWholeRow, standIns := [], harness := (true, "ac366defa9b34b831fb7d1281a47913a1268124869032afabca0ce568c4382a7"), looks := true }, kinds := [], alts := [], laidByText := true, laidKinds := [.handle], laidTests := true, laidLooks := .later }
def VaultWholeCardSaid : Prop := Claim7.holds Tryd.pinned (.plain (OpenSpec.ofChange vaultWholeSpec)) vaultWholeCard

/-- THE TIED CARD OF 'muntinlaw20.VaultOlder'. -/
def vaultOlderCard : Claim7 := { stood := { row := vaultOlderRow, standIns := [], harness := (true, "ac366defa9b34b831fb7d1281a47913a1268124869032afabca0ce568c4382a7"), looks := true }, kinds := [], alts := [], laidByText := true, laidKinds := [.handle], laidTests := true, laidLooks := .later }
def VaultOlderCardSaid : Prop := Claim7.holds Tryd.pinned (.plain (OpenSpec.ofChange vaultOlderSpec)) vaultOlderCard

/-- THE TIED CARD OF 'muntinlaw18.DiskWhole'. -/
def diskWholeCard : Claim7 := { stood := { row := diskWholeRow, standIns := [], harness := (true, "ac366defa9b34b831fb7d1281a47913a1268124869032afabca0ce568c4382a7"), looks := true }, kinds := [], alts := [], laidByText := true, laidKinds := [.handle], laidTests := true, laidLooks := .later }
def DiskWholeCardSaid : Prop := Claim7.holds Tryd.pinned (.plain (OpenSpec.ofChange diskWholeSpec)) diskWholeCard

/-- THE TIED CARD OF 'muntinlaw18.DiskPlays'. -/
def diskPlaysCard : Claim7 := { stood := { row := diskPlaysRow, standIns := [], harness := (true, "ac366defa9b34b831fb7d1281a47913a1268124869032afabca0ce568c4382a7"), looks := true }, kinds := [], alts := [], laidByText := true, laidKinds := [.handle], laidTests := true, laidLooks := .later }
def DiskPlaysCardSaid : Prop := Claim7.holds Tryd.pinned (.plain (OpenSpec.ofChange diskPlaysSpec)) diskPlaysCard

/-- THE TIED CARD OF 'muntinlaw18.DiskLasts'. -/
def diskLastsCard : Claim7 := { stood := { row := diskLastsRow, standIns := [], harness := (true, "ac366defa9b34b831fb7d1281a47913a1268124869032afabca0ce568c4382a7"), looks := true }, kinds := [], alts := [], laidByText := true, laidKinds := [.handle], laidTests := true, laidLooks := .later }
def DiskLastsCardSaid : Prop := Claim7.holds Tryd.pinned (.plain (OpenSpec.ofChange diskLastsSpec)) diskLastsCard

/-- THE TIED CARD OF 'muntinlaw18.DiskApart'. -/
def diskApartCard : Claim7 := { stood := { row := diskApartRow, standIns := [], harness := (true, "ac366defa9b34b831fb7d1281a47913a1268124869032afabca0ce568c4382a7"), looks := true }, kinds := [], alts := [], laidByText := true, laidKinds := [.handle], laidTests := true, laidLooks := .later }
def DiskApartCardSaid : Prop := Claim7.holds Tryd.pinned (.plain (OpenSpec.ofChange diskApartSpec)) diskApartCard

/-- THE SECOND FORM's CARD OF 'muntinlaw20.VaultCodes'. -/
def vaultCodesUptoCard : Claim7 := { stood := { row := vaultCodesUptoRow, standIns := [], harness := (true, "ac366defa9b34b831fb7d1281a47913a1268124869032afabca0ce568c4382a7"), looks := true }, kinds := [], alts := [], laidByText := true, laidKinds := [.handle], laidTests := true, laidLooks := .later }
def VaultCodesUptoCardSaid : Prop := Claim7.holds Tryd.pinned (.plain (OpenSpec.upto vaultCodesSpec)) vaultCodesUptoCard

/-- THE SECOND FORM's CARD OF 'muntinlaw20.VaultCollects'. -/
def vaultCollectsUptoCard : Claim7 := { stood := { row := vaultCollectsUptoRow, standIns := [], harness := (true, "ac366defa9b34b831fb7d1281a47913a1268124869032afabca0ce568c4382a7"), looks := true }, kinds := [], alts := [], laidByText := true, laidKinds := [.handle], laidTests := true, laidLooks := .later }
def VaultCollectsUptoCardSaid : Prop := Claim7.holds Tryd.pinned (.plain (OpenSpec.upto vaultCollectsSpec)) vaultCollectsUptoCard

/-- THE SECOND FORM's CARD OF 'muntinlaw20.VaultWhole'. -/
def vaultWholeUptoCard : Claim7 := { stood := { row := vaultWholeUptoRow, standIns := [], harness := (true, "ac366defa9b34b831fb7d1281a47913a1268124869032afabca0ce568c4382a7"), looks := true }, kinds := [], alts := [], laidByText := true, laidKinds := [.handle], laidTests := true, laidLooks := .later }
def VaultWholeUptoCardSaid : Prop := Claim7.holds Tryd.pinned (.plain (OpenSpec.upto vaultWholeSpec)) vaultWholeUptoCard

/-- THE SECOND FORM's CARD OF 'muntinlaw20.VaultOlder'. -/
def vaultOlderUptoCard : Claim7 := { stood := { row := vaultOlderUptoRow, standIns := [], harness := (true, "ac366defa9b34b831fb7d1281a47913a1268124869032afabca0ce568c4382a7"), looks := true }, kinds := [], alts := [], laidByText := true, laidKinds := [.handle], laidTests := true, laidLooks := .later }
def VaultOlderUptoCardSaid : Prop := Claim7.holds Tryd.pinned (.plain (OpenSpec.upto vaultOlderSpec)) vaultOlderUptoCard

/-- THE SECOND FORM's CARD OF 'muntinlaw18.DiskWhole'. -/
def diskWholeUptoCard : Claim7 := { stood := { row := diskWholeUptoRow, standIns := [], harness := (true, "ac366defa9b34b831fb7d1281a47913a1268124869032afabca0ce568c4382a7"), looks := true }, kinds := [], alts := [], laidByText := true, laidKinds := [.handle], laidTests := true, laidLooks := .later }
def DiskWholeUptoCardSaid : Prop := Claim7.holds Tryd.pinned (.plain (OpenSpec.upto diskWholeSpec)) diskWholeUptoCard

/-- THE SECOND FORM's CARD OF 'muntinlaw18.DiskPlays'. -/
def diskPlaysUptoCard : Claim7 := { stood := { row := diskPlaysUptoRow, standIns := [], harness := (true, "ac366defa9b34b831fb7d1281a47913a1268124869032afabca0ce568c4382a7"), looks := true }, kinds := [], alts := [], laidByText := true, laidKinds := [.handle], laidTests := true, laidLooks := .later }
def DiskPlaysUptoCardSaid : Prop := Claim7.holds Tryd.pinned (.plain (OpenSpec.upto diskPlaysSpec)) diskPlaysUptoCard

/-- THE SECOND FORM's CARD OF 'muntinlaw18.DiskLasts'. -/
def diskLastsUptoCard : Claim7 := { stood := { row := diskLastsUptoRow, standIns := [], harness := (true, "ac366defa9b34b831fb7d1281a47913a1268124869032afabca0ce568c4382a7"), looks := true }, kinds := [], alts := [], laidByText := true, laidKinds := [.handle], laidTests := true, laidLooks := .later }
def DiskLastsUptoCardSaid : Prop := Claim7.holds Tryd.pinned (.plain (OpenSpec.upto diskLastsSpec)) diskLastsUptoCard

/-- THE SECOND FORM's CARD OF 'muntinlaw18.DiskApart'. -/
def diskApartUptoCard : Claim7 := { stood := { row := diskApartUptoRow, standIns := [], harness := (true, "ac366defa9b34b831fb7d1281a47913a1268124869032afabca0ce568c4382a7"), looks := true }, kinds := [], alts := [], laidByText := true, laidKinds := [.handle], laidTests := true, laidLooks := .later }
def DiskApartUptoCardSaid : Prop := Claim7.holds Tryd.pinned (.plain (OpenSpec.upto diskApartSpec)) diskApartUptoCard
end Rows
end Go.Proofs.YtjcchjgkkplamaaDoor
