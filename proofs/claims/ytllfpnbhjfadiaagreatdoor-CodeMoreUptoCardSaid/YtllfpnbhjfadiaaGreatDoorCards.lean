/-
  DERIVED. GIVEN WITH THE SEED: THE CARDS: each row of YtllfpnbhjfadiaaGreatDoorRows.lean that lists a variable, with what it lists TIED to the program's text (the seventh form; the later family's looks); each row that meets fmt, with fmt's text TOLD by the authors' own Lean function (tested against real Go, not proved from fmt's source: count such statements apart). THE CARD IS WHAT COUNTS. Prove the row's statement (the work); the ties are given (YtllfpnbhjfadiaaGreatDoorTie.lean); close each card by the builder's one call (the guide's Derived/Test/ToyasCard.lean, 'card_holds'). Laid BY PROGRAM, IN A SANDBOX (cutbox-door.mjs). By AI agents, Wed Nov 11 2026. No macro, syntax, notation, axiom, sorry.
-/
import Derived.Test.YtllfpnbhjfadiaaGreatDoorRows
import GoSem.ClaimSeven
namespace Go.Proofs.YtllfpnbhjfadiaaGreatDoor
namespace Rows

/-- THE TIED CARD OF 'muntinlaw11.CodeOnce'. -/
def codeOnceCard : Claim7 := { stood := { row := codeOnceRow, standIns := [], harness := (true, "4e46c97b87d7962c3898a83c35c53a1f016269a1ad1c60b6454ca4f9e820f6fc"), looks := true }, kinds := [], alts := [], laidByText := true, laidKinds := [.data, .data, .data, .data, .handle, .pinned, .pinned, .pinned, .pinned, .pinned, .pinned], laidTests := true, laidLooks := .later }
def CodeOnceCardSaid : Prop := Claim7.holds Tryz.pinned (.plain (OpenSpec.ofChange codeOnceSpec)) codeOnceCard

/-- THE TIED CARD OF 'muntinlaw11.CodeMore'. -/
def codeMoreCard : Claim7 := { stood := { row := codeMoreRow, standIns := [], harness := (true, "4e46c97b87d7962c3898a83c35c53a1f016269a1ad1c60b6454ca4f9e820f6fc"), looks := true }, kinds := [], alts := [], laidByText := true, laidKinds := [.data, .data, .data, .data, .handle, .pinned, .pinned, .pinned, .pinned, .pinned, .pinned], laidTests := true, laidLooks := .later }
def CodeMoreCardSaid : Prop := Claim7.holds Tryz.pinned (.plain (OpenSpec.ofChange codeMoreSpec)) codeMoreCard

/-- THE TIED CARD OF 'muntinlaw11.CodeMakes'. -/
def codeMakesCard : Claim7 := { stood := { row := codeMakesRow, standIns := [], harness := (true, "4e46c97b87d7962c3898a83c35c53a1f016269a1ad1c60b6454ca4f9e820f6fc"), looks := true }, kinds := [], alts := [], laidByText := true, laidKinds := [.data, .data, .data, .data, .handle, .pinned, .pinned, .pinned, .pinned, .pinned, .pinned], laidTests := true, laidLooks := .later }
def CodeMakesCardSaid : Prop := Claim7.holds Tryz.pinned (.plain (OpenSpec.ofChange codeMakesSpec)) codeMakesCard

/-- THE TIED CARD OF 'muntinlaw11.CodeReads'. -/
def codeReadsCard : Claim7 := { stood := { row := codeReadsRow, standIns := [], harness := (true, "4e46c97b87d7962c3898a83c35c53a1f016269a1ad1c60b6454ca4f9e820f6fc"), looks := true }, kinds := [], alts := [], laidByText := true, laidKinds := [.data, .data, .data, .data, .handle, .pinned, .pinned, .pinned, .pinned, .pinned, .pinned], laidTests := true, laidLooks := .later }
def CodeReadsCardSaid : Prop := Claim7.holds Tryz.pinned (.plain (OpenSpec.ofChange codeReadsSpec)) codeReadsCard

/-- THE TIED CARD OF 'muntinlaw11.CodeLoads'. -/
def codeLoadsCard : Claim7 := { stood := { row := codeLoadsRow, standIns := [], harness := (true, "4e46c97b87d7962c3898a83c35c53a1f016269a1ad1c60b6454ca4f9e820f6fc"), looks := true }, kinds := [], alts := [], laidByText := true, laidKinds := [.data, .data, .data, .data, .handle, .pinned, .pinned, .pinned, .pinned, .pinned, .pinned], laidTests := true, laidLooks := .later }
def CodeLoadsCardSaid : Prop := Claim7.holds Tryz.pinned (.plain (OpenSpec.ofChange codeLoadsSpec)) codeLoadsCard

/-- THE TIED CARD OF 'muntinlaw11.CodeBack'. -/
def codeBackCard : Claim7 := { stood := { row := codeBackRow, standIns := [], harness := (true, "4e46c97b87d7962c3898a83c35c53a1f016269a1ad1c60b6454ca4f9e820f6fc"), looks := true }, kinds := [], alts := [], laidByText := true, laidKinds := [.data, .data, .data, .data, .handle, .pinned, .pinned, .pinned, .pinned, .pinned, .pinned], laidTests := true, laidLooks := .later }
def CodeBackCardSaid : Prop := Claim7.holds Tryz.pinned (.plain (OpenSpec.ofChange codeBackSpec)) codeBackCard

/-- THE SECOND FORM's CARD OF 'muntinlaw11.CodeOnce'. -/
def codeOnceUptoCard : Claim7 := { stood := { row := codeOnceUptoRow, standIns := [], harness := (true, "4e46c97b87d7962c3898a83c35c53a1f016269a1ad1c60b6454ca4f9e820f6fc"), looks := true }, kinds := [], alts := [], laidByText := true, laidKinds := [.data, .data, .data, .data, .handle, .pinned, .pinned, .pinned, .pinned, .pinned, .pinned], laidTests := true, laidLooks := .later }
def CodeOnceUptoCardSaid : Prop := Claim7.holds Tryz.pinned (.plain (OpenSpec.upto codeOnceSpec)) codeOnceUptoCard

/-- THE SECOND FORM's CARD OF 'muntinlaw11.CodeMore'. -/
def codeMoreUptoCard : Claim7 := { stood := { row := codeMoreUptoRow, standIns := [], harness := (true, "4e46c97b87d7962c3898a83c35c53a1f016269a1ad1c60b6454ca4f9e820f6fc"), looks := true }, kinds := [], alts := [], laidByText := true, laidKinds := [.data, .data, .data, .data, .handle, .pinned, .pinned, .pinned, .pinned, .pinned, .pinned], laidTests := true, laidLooks := .later }
def CodeMoreUptoCardSaid : Prop := Claim7.holds Tryz.pinned (.plain (OpenSpec.upto codeMoreSpec)) codeMoreUptoCard

/-- THE SECOND FORM's CARD OF 'muntinlaw11.CodeMakes'. -/
def codeMakesUptoCard : Claim7 := { stood := { row := codeMakesUptoRow, standIns := [], harness := (true, "4e46c97b87d7962c3898a83c35c53a1f016269a1ad1c60b6454ca4f9e820f6fc"), looks := true }, kinds := [], alts := [], laidByText := true, laidKinds := [.data, .data, .data, .data, .handle, .pinned, .pinned, .pinned, .pinned, .pinned, .pinned], laidTests := true, laidLooks := .later }
def CodeMakesUptoCardSaid : Prop := Claim7.holds Tryz.pinned (.plain (OpenSpec.upto codeMakesSpec)) codeMakesUptoCard

/-- THE SECOND FORM's CARD OF 'muntinlaw11.CodeReads'. -/
def codeReadsUptoCard : Claim7 := { stood := { row := codeReadsUptoRow, standIns := [], harness := (true, "4e46c97b87d7962c3898a83c35c53a1f016269a1ad1c60b6454ca4f9e820f6fc"), looks := true }, kinds := [], alts := [], laidByText := true, laidKinds := [.data, .data, .data, .data, .handle, .pinned, .pinned, .pinned, .pinned, .pinned, .pinned], laidTests := true, laidLooks := .later }
def CodeReadsUptoCardSaid : Prop := Claim7.holds Tryz.pinned (.plain (OpenSpec.upto codeReadsSpec)) codeReadsUptoCard

/-- THE SECOND FORM's CARD OF 'muntinlaw11.CodeLoads'. -/
def codeLoadsUptoCard : Claim7 := { stood := { row := codeLoadsUptoRow, standIns := [], harness := (true, "4e46c97b87d7962c3898a83c35c53a1f016269a1ad1c60b6454ca4f9e820f6fc"), looks := true }, kinds := [], alts := [], laidByText := true, laidKinds := [.data, .data, .data, .data, .handle, .pinned, .pinned, .pinned, .pinned, .pinned, .pinned], laidTests := true, laidLooks := .later }
def CodeLoadsUptoCardSaid : Prop := Claim7.holds Tryz.pinned (.plain (OpenSpec.upto codeLoadsSpec)) codeLoadsUptoCard

/-- THE SECOND FORM's CARD OF 'muntinlaw11.CodeBack'. -/
def codeBackUptoCard : Claim7 := { stood := { row := codeBackUptoRow, standIns := [], harness := (true, "4e46c97b87d7962c3898a83c35c53a1f016269a1ad1c60b6454ca4f9e820f6fc"), looks := true }, kinds := [], alts := [], laidByText := true, laidKinds := [.data, .data, .data, .data, .handle, .pinned, .pinned, .pinned, .pinned, .pinned, .pinned], laidTests := true, laidLooks := .later }
def CodeBackUptoCardSaid : Prop := Claim7.holds Tryz.pinned (.plain (OpenSpec.upto codeBackSpec)) codeBackUptoCard
end Rows
end Go.Proofs.YtllfpnbhjfadiaaGreatDoor
