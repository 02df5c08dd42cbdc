/-
  NARROWER THAN 'FOR EVERY INPUT', by the rows' own cells (each row's printed sentence says how): VaultCodes: laid · VaultCollects: laid · VaultWhole: laid · VaultOlder: laid · DiskWhole: laid · DiskPlays: laid · DiskLasts: laid · DiskApart: laid.
  DERIVED. THE GIVEN ROWS OF THIS SEAT. 8 by the template 'for every input the law returns true; each argument reads behind the call as it read before'; 0 by the template 'total and deterministic' (their statements: YtjcchjgkkplamaaDoorTotals.lean).
  GIVEN WITH THE SEED: the statements are not yours to turn. If you find one false, say at which input.
  Laid BY PROGRAM, IN A SANDBOX (cutbox-rows.mjs): the forced cells as the released guide's own fill.sh prints them over the translation fcd9d2b7f7a68390… (all of the seat's roots in one cut). By AI agents, Wed Nov 11 2026. No macro, syntax, notation, axiom, sorry.
-/
import Derived.Test.YtjcchjgkkplamaaDoorChecked
import GoSem.Claim
import GoSem.ClaimJoined
import GoSem.ClaimMapViews
import Derived.JoinedTies
import Derived.KernelRfl
namespace Go.Proofs.YtjcchjgkkplamaaDoor
/- THE CELL 'sum', in the pinned program and in every row, IS THE sha256 OF THE DUMP (.gsa) THAT YtjcchjgkkplamaaDoorProg.lean LOADS. Nothing in Lean hashes anything: it is a label: what it is worth is what the hold of that sum in a sandbox is worth. -/
noncomputable def Tryd.pinned : Pinned := { name := "ytjcchjgkkplamaadoor", sum := "fcd9d2b7f7a683902f649eed9d05fd9410f88392fc64d755ad0a6fc9c29b7226", checked := Tryd.checked }
namespace Rows
def none {H : Type} : Left H := { results := [], args := [] }

/- WHAT THE LISTED PACKAGE-LEVEL VARIABLES READ AS WHEN THE CALL BEGINS. Each datum BY PROGRAM (the guide's laid-datum.mjs) off the statement by which the dump's own 'gosem.cut.vars' lays the variable. In a bare row this is a premise. The card (YtjcchjgkkplamaaDoorCards.lean) ties it to the program's text. -/
def laid_errors_errorType {H : Type} : DataW H := .iface "internal/reflectlite.rtype" (.agg [.ptr (.lit (.string [101, 114, 114, 111, 114]))])

/-- 'muntinlaw20.VaultCodes': WHATEVER THE INPUT: true; the input reads as it did. -/
def vaultCodesSpec : ChangeSpec := { name := "vaultCodes", fn := fun _ => fun
  | [d1, d2] => { results := [.lit (.bool true)], args := [d1, d2] }
  | _ => none }
def vaultCodesRow : OpenClaim := { program := "ytjcchjgkkplamaadoor", sum := "fcd9d2b7f7a683902f649eed9d05fd9410f88392fc64d755ad0a6fc9c29b7226", func := "muntin/muntinlaw20.VaultCodes", spec := "vaultCodes", inPlace := ["internal/reflectlite.ValueOf", "(internal/reflectlite.Value).Type", "(internal/reflectlite.Value).IsNil", "internal/reflectlite.TypeOf", "(internal/reflectlite.Value).Elem", "(internal/reflectlite.Value).Set"], unfollowed := true, recurses := true, named := ["errors.errorType"], apart := false, laid := [("errors.errorType", laid_errors_errorType)] }
def VaultCodesSaid : Prop := vaultCodesRow.holds Tryd.pinned (OpenSpec.ofChange vaultCodesSpec)

/-- ITS FALSE NEIGHBOUR: 'it returns false'. Refute it at one input. -/
def vaultCodesWrong : ChangeSpec := { name := "vaultCodes", fn := fun _ => fun
  | [d1, d2] => { results := [.lit (.bool false)], args := [d1, d2] }
  | _ => none }
def VaultCodesWrongFalsely : Prop := vaultCodesRow.holds Tryd.pinned (OpenSpec.ofChange vaultCodesWrong)

/-- 'muntinlaw20.VaultCollects': WHATEVER THE INPUT: true; the input reads as it did. -/
def vaultCollectsSpec : ChangeSpec := { name := "vaultCollects", fn := fun _ => fun
  | [d] => { results := [.lit (.bool true)], args := [d] }
  | _ => none }
def vaultCollectsRow : OpenClaim := { program := "ytjcchjgkkplamaadoor", sum := "fcd9d2b7f7a683902f649eed9d05fd9410f88392fc64d755ad0a6fc9c29b7226", func := "muntin/muntinlaw20.VaultCollects", spec := "vaultCollects", inPlace := ["internal/reflectlite.ValueOf", "(internal/reflectlite.Value).Type", "(internal/reflectlite.Value).IsNil", "internal/reflectlite.TypeOf", "(internal/reflectlite.Value).Elem", "(internal/reflectlite.Value).Set"], unfollowed := true, recurses := true, named := ["errors.errorType"], apart := false, laid := [("errors.errorType", laid_errors_errorType)] }
def VaultCollectsSaid : Prop := vaultCollectsRow.holds Tryd.pinned (OpenSpec.ofChange vaultCollectsSpec)

/-- ITS FALSE NEIGHBOUR: 'it returns false'. Refute it at one input. -/
def vaultCollectsWrong : ChangeSpec := { name := "vaultCollects", fn := fun _ => fun
  | [d] => { results := [.lit (.bool false)], args := [d] }
  | _ => none }
def VaultCollectsWrongFalsely : Prop := vaultCollectsRow.holds Tryd.pinned (OpenSpec.ofChange vaultCollectsWrong)

/-- 'muntinlaw20.VaultWhole': WHATEVER THE INPUT: true; the input reads as it did. -/
def vaultWholeSpec : ChangeSpec := { name := "vaultWhole", fn := fun _ => fun
  | [d1, d2, d3] => { results := [.lit (.bool true)], args := [d1, d2, d3] }
  | _ => none }
def vaultWholeRow : OpenClaim := { program := "ytjcchjgkkplamaadoor", sum := "fcd9d2b7f7a683902f649eed9d05fd9410f88392fc64d755ad0a6fc9c29b7226", func := "muntin/muntinlaw20.VaultWhole", spec := "vaultWhole", inPlace := ["internal/reflectlite.ValueOf", "(internal/reflectlite.Value).Type", "(internal/reflectlite.Value).IsNil", "internal/reflectlite.TypeOf", "(internal/reflectlite.Value).Elem", "(internal/reflectlite.Value).Set"], unfollowed := true, recurses := true, named := ["errors.errorType"], apart := false, laid := [("errors.errorType", laid_errors_errorType)] }
def VaultWholeSaid : Prop := vaultWholeRow.holds Tryd.pinned (OpenSpec.ofChange vaultWholeSpec)

/-- ITS FALSE NEIGHBOUR: 'it returns false'. Refute it at one input. -/
def vaultWholeWrong : ChangeSpec := { name := "vaultWhole", fn := fun _ => fun
  | [d1, d2, d3] => { results := [.lit (.bool false)], args := [d1, d2, d3] }
  | _ => none }
def VaultWholeWrongFalsely : Prop := vaultWholeRow.holds Tryd.pinned (OpenSpec.ofChange vaultWholeWrong)

/-- 'muntinlaw20.VaultOlder': WHATEVER THE INPUT: true; the input reads as it did. -/
def vaultOlderSpec : ChangeSpec := { name := "vaultOlder", fn := fun _ => fun
  | [d1, d2, d3, d4] => { results := [.lit (.bool true)], args := [d1, d2, d3, d4] }
  | _ => none }
def vaultOlderRow : OpenClaim := { program := "ytjcchjgkkplamaadoor", sum := "fcd9d2b7f7a683902f649eed9d05fd9410f88392fc64d755ad0a6fc9c29b7226", func := "muntin/muntinlaw20.VaultOlder", spec := "vaultOlder", inPlace := ["internal/reflectlite.ValueOf", "(internal/reflectlite.Value).Type", "(internal/reflectlite.Value).IsNil", "internal/reflectlite.TypeOf", "(internal/reflectlite.Value).Elem", "(internal/reflectlite.Value).Set"], unfollowed := true, recurses := true, named := ["errors.errorType"], apart := false, laid := [("errors.errorType", laid_errors_errorType)] }
def VaultOlderSaid : Prop := vaultOlderRow.holds Tryd.pinned (OpenSpec.ofChange vaultOlderSpec)

/-- ITS FALSE NEIGHBOUR: 'it returns false'. Refute it at one input. -/
def vaultOlderWrong : ChangeSpec := { name := "vaultOlder", fn := fun _ => fun
  | [d1, d2, d3, d4] => { results := [.lit (.bool false)], args := [d1, d2, d3, d4] }
  | _ => none }
def VaultOlderWrongFalsely : Prop := vaultOlderRow.holds Tryd.pinned (OpenSpec.ofChange vaultOlderWrong)

/-- 'muntinlaw18.DiskWhole': WHATEVER THE INPUT: true; the input reads as it did. -/
def diskWholeSpec : ChangeSpec := { name := "diskWhole", fn := fun _ => fun
  | [d1, d2, d3, d4, d5, d6] => { results := [.lit (.bool true)], args := [d1, d2, d3, d4, d5, d6] }
  | _ => none }
def diskWholeRow : OpenClaim := { program := "ytjcchjgkkplamaadoor", sum := "fcd9d2b7f7a683902f649eed9d05fd9410f88392fc64d755ad0a6fc9c29b7226", func := "muntin/muntinlaw18.DiskWhole", spec := "diskWhole", inPlace := ["internal/reflectlite.ValueOf", "(internal/reflectlite.Value).Type", "(internal/reflectlite.Value).IsNil", "internal/reflectlite.TypeOf", "(internal/reflectlite.Value).Elem", "(internal/reflectlite.Value).Set"], unfollowed := true, recurses := true, named := ["errors.errorType"], apart := false, laid := [("errors.errorType", laid_errors_errorType)] }
def DiskWholeSaid : Prop := diskWholeRow.holds Tryd.pinned (OpenSpec.ofChange diskWholeSpec)

/-- ITS FALSE NEIGHBOUR: 'it returns false'. Refute it at one input. -/
def diskWholeWrong : ChangeSpec := { name := "diskWhole", fn := fun _ => fun
  | [d1, d2, d3, d4, d5, d6] => { results := [.lit (.bool false)], args := [d1, d2, d3, d4, d5, d6] }
  | _ => none }
def DiskWholeWrongFalsely : Prop := diskWholeRow.holds Tryd.pinned (OpenSpec.ofChange diskWholeWrong)

/-- 'muntinlaw18.DiskPlays': WHATEVER THE INPUT: true; the input reads as it did. -/
def diskPlaysSpec : ChangeSpec := { name := "diskPlays", fn := fun _ => fun
  | [d] => { results := [.lit (.bool true)], args := [d] }
  | _ => none }
def diskPlaysRow : OpenClaim := { program := "ytjcchjgkkplamaadoor", sum := "fcd9d2b7f7a683902f649eed9d05fd9410f88392fc64d755ad0a6fc9c29b7226", func := "muntin/muntinlaw18.DiskPlays", spec := "diskPlays", inPlace := ["internal/reflectlite.ValueOf", "(internal/reflectlite.Value).Type", "(internal/reflectlite.Value).IsNil", "internal/reflectlite.TypeOf", "(internal/reflectlite.Value).Elem", "(internal/reflectlite.Value).Set"], unfollowed := true, recurses := true, named := ["errors.errorType"], apart := false, laid := [("errors.errorType", laid_errors_errorType)] }
def DiskPlaysSaid : Prop := diskPlaysRow.holds Tryd.pinned (OpenSpec.ofChange diskPlaysSpec)

/-- ITS FALSE NEIGHBOUR: 'it returns false'. Refute it at one input. -/
def diskPlaysWrong : ChangeSpec := { name := "diskPlays", fn := fun _ => fun
  | [d] => { results := [.lit (.bool false)], args := [d] }
  | _ => none }
def DiskPlaysWrongFalsely : Prop := diskPlaysRow.holds Tryd.pinned (OpenSpec.ofChange diskPlaysWrong)

/-- 'muntinlaw18.DiskLasts': WHATEVER THE INPUT: true; the input reads as it did. -/
def diskLastsSpec : ChangeSpec := { name := "diskLasts", fn := fun _ => fun
  | [d1, d2] => { results := [.lit (.bool true)], args := [d1, d2] }
  | _ => none }
def diskLastsRow : OpenClaim := { program := "ytjcchjgkkplamaadoor", sum := "fcd9d2b7f7a683902f649eed9d05fd9410f88392fc64d755ad0a6fc9c29b7226", func := "muntin/muntinlaw18.DiskLasts", spec := "diskLasts", inPlace := ["internal/reflectlite.ValueOf", "(internal/reflectlite.Value).Type", "(internal/reflectlite.Value).IsNil", "internal/reflectlite.TypeOf", "(internal/reflectlite.Value).Elem", "(internal/reflectlite.Value).Set"], unfollowed := true, recurses := true, named := ["errors.errorType"], apart := false, laid := [("errors.errorType", laid_errors_errorType)] }
def DiskLastsSaid : Prop := diskLastsRow.holds Tryd.pinned (OpenSpec.ofChange diskLastsSpec)

/-- ITS FALSE NEIGHBOUR: 'it returns false'. Refute it at one input. -/
def diskLastsWrong : ChangeSpec := { name := "diskLasts", fn := fun _ => fun
  | [d1, d2] => { results := [.lit (.bool false)], args := [d1, d2] }
  | _ => none }
def DiskLastsWrongFalsely : Prop := diskLastsRow.holds Tryd.pinned (OpenSpec.ofChange diskLastsWrong)

/-- 'muntinlaw18.DiskApart': WHATEVER THE INPUT: true; the input reads as it did. -/
def diskApartSpec : ChangeSpec := { name := "diskApart", fn := fun _ => fun
  | [d1, d2] => { results := [.lit (.bool true)], args := [d1, d2] }
  | _ => none }
def diskApartRow : OpenClaim := { program := "ytjcchjgkkplamaadoor", sum := "fcd9d2b7f7a683902f649eed9d05fd9410f88392fc64d755ad0a6fc9c29b7226", func := "muntin/muntinlaw18.DiskApart", spec := "diskApart", inPlace := ["internal/reflectlite.ValueOf", "(internal/reflectlite.Value).Type", "(internal/reflectlite.Value).IsNil", "internal/reflectlite.TypeOf", "(internal/reflectlite.Value).Elem", "(internal/reflectlite.Value).Set"], unfollowed := true, recurses := true, named := ["errors.errorType"], apart := false, laid := [("errors.errorType", laid_errors_errorType)] }
def DiskApartSaid : Prop := diskApartRow.holds Tryd.pinned (OpenSpec.ofChange diskApartSpec)

/-- ITS FALSE NEIGHBOUR: 'it returns false'. Refute it at one input. -/
def diskApartWrong : ChangeSpec := { name := "diskApart", fn := fun _ => fun
  | [d1, d2] => { results := [.lit (.bool false)], args := [d1, d2] }
  | _ => none }
def DiskApartWrongFalsely : Prop := diskApartRow.holds Tryd.pinned (OpenSpec.ofChange diskApartWrong)

/- THE SECOND FORM. 'bulk': how many values and letters a reading holds, each counted each time it is reached (what is shared counts as often as it is met; a slice's spare places count too). A statement '..UptoSaid' is the law's where the arguments, and the package variables that the reading takes, are together of bulk at most 1048576: NARROWER than '..Said'. Prove '..Said' where nothing that the law and all that it calls make is longer than what came in: it says more and counts as full. Else prove '..UptoSaid'. A law counts once. -/
mutual
def uptoBulk {H : Type} : DataW H → Nat
  | .lit (.string bytes) => bytes.length + 1
  | .lit _ => 1
  | .nil => 1
  | .ptr d => uptoBulk d + 1
  | .slice elems spare => uptoBulkAll elems + uptoBulkAll spare + 1
  | .agg parts => uptoBulkAll parts + 1
  | .iface _ d => uptoBulk d + 1
  | .map entries => uptoBulkEntries entries + 1
  | .held _ => 1
def uptoBulkAll {H : Type} : List (DataW H) → Nat
  | [] => 0
  | d :: r => uptoBulk d + uptoBulkAll r
def uptoBulkEntries {H : Type} : List (Lit × DataW H) → Nat
  | [] => 0
  | x :: r => uptoBulkEntry x + uptoBulkEntries r
def uptoBulkEntry {H : Type} : Lit × DataW H → Nat
  | (.string bytes, d) => bytes.length + uptoBulk d + 1
  | (_, d) => uptoBulk d + 1
 end
def uptoSmall : (H : Type) → List (DataW H) → Bool := fun _ ds => decide (uptoBulkAll ds ≤ 1048576)
def OpenSpec.upto (s : _root_.Go.ChangeSpec) : _root_.Go.OpenSpec := { _root_.Go.OpenSpec.ofChange s with cond := some uptoSmall }

/-- 'muntinlaw20.VaultCodes', WHERE WHAT IT READS IS OF BULK AT MOST 1048576: true; the input reads as it did. -/
def vaultCodesUptoRow : OpenClaim := { program := "ytjcchjgkkplamaadoor", sum := "fcd9d2b7f7a683902f649eed9d05fd9410f88392fc64d755ad0a6fc9c29b7226", func := "muntin/muntinlaw20.VaultCodes", spec := "vaultCodes", inPlace := ["internal/reflectlite.ValueOf", "(internal/reflectlite.Value).Type", "(internal/reflectlite.Value).IsNil", "internal/reflectlite.TypeOf", "(internal/reflectlite.Value).Elem", "(internal/reflectlite.Value).Set"], unfollowed := true, recurses := true, named := ["errors.errorType"], apart := false, laid := [("errors.errorType", laid_errors_errorType)], narrowed := true }
def VaultCodesUptoSaid : Prop := vaultCodesUptoRow.holds Tryd.pinned (OpenSpec.upto vaultCodesSpec)

/-- 'muntinlaw20.VaultCollects', WHERE WHAT IT READS IS OF BULK AT MOST 1048576: true; the input reads as it did. -/
def vaultCollectsUptoRow : OpenClaim := { program := "ytjcchjgkkplamaadoor", sum := "fcd9d2b7f7a683902f649eed9d05fd9410f88392fc64d755ad0a6fc9c29b7226", func := "muntin/muntinlaw20.VaultCollects", spec := "vaultCollects", inPlace := ["internal/reflectlite.ValueOf", "(internal/reflectlite.Value).Type", "(internal/reflectlite.Value).IsNil", "internal/reflectlite.TypeOf", "(internal/reflectlite.Value).Elem", "(internal/reflectlite.Value).Set"], unfollowed := true, recurses := true, named := ["errors.errorType"], apart := false, laid := [("errors.errorType", laid_errors_errorType)], narrowed := true }
def VaultCollectsUptoSaid : Prop := vaultCollectsUptoRow.holds Tryd.pinned (OpenSpec.upto vaultCollectsSpec)

/-- 'muntinlaw20.VaultWhole', WHERE WHAT IT READS IS OF BULK AT MOST 1048576: true; the input reads as it did. -/
def vaultWholeUptoRow : OpenClaim := { program := "ytjcchjgkkplamaadoor", sum := "fcd9d2b7f7a683902f649eed9d05fd9410f88392fc64d755ad0a6fc9c29b7226", func := "muntin/muntinlaw20.VaultWhole", spec := "vaultWhole", inPlace := ["internal/reflectlite.ValueOf", "(internal/reflectlite.Value).Type", "(internal/reflectlite.Value).IsNil", "internal/reflectlite.TypeOf", "(internal/reflectlite.Value).Elem", "(internal/reflectlite.Value).Set"], unfollowed := true, recurses := true, named := ["errors.errorType"], apart := false, laid := [("errors.errorType", laid_errors_errorType)], narrowed := true }
def VaultWholeUptoSaid : Prop := vaultWholeUptoRow.holds Tryd.pinned (OpenSpec.upto vaultWholeSpec)

/-- 'muntinlaw20.VaultOlder', WHERE WHAT IT READS IS OF BULK AT MOST 1048576: true; the input reads as it did. -/
def vaultOlderUptoRow : OpenClaim := { program := "ytjcchjgkkplamaadoor", sum := "fcd9d2b7f7a683902f649eed9d05fd9410f88392fc64d755ad0a6fc9c29b7226", func := "muntin/muntinlaw20.VaultOlder", spec := "vaultOlder", inPlace := ["internal/reflectlite.ValueOf", "(internal/reflectlite.Value).Type", "(internal/reflectlite.Value).IsNil", "internal/reflectlite.TypeOf", "(internal/reflectlite.Value).Elem", "(internal/reflectlite.Value).Set"], unfollowed := true, recurses := true, named := ["errors.errorType"], apart := false, laid := [("errors.errorType", laid_errors_errorType)], narrowed := true }
def VaultOlderUptoSaid : Prop := vaultOlderUptoRow.holds Tryd.pinned (OpenSpec.upto vaultOlderSpec)

/-- 'muntinlaw18.DiskWhole', WHERE WHAT IT READS IS OF BULK AT MOST 1048576: true; the input reads as it did. -/
def diskWholeUptoRow : OpenClaim := { program := "ytjcchjgkkplamaadoor", sum := "fcd9d2b7f7a683902f649eed9d05fd9410f88392fc64d755ad0a6fc9c29b7226", func := "muntin/muntinlaw18.DiskWhole", spec := "diskWhole", inPlace := ["internal/reflectlite.ValueOf", "(internal/reflectlite.Value).Type", "(internal/reflectlite.Value).IsNil", "internal/reflectlite.TypeOf", "(internal/reflectlite.Value).Elem", "(internal/reflectlite.Value).Set"], unfollowed := true, recurses := true, named := ["errors.errorType"], apart := false, laid := [("errors.errorType", laid_errors_errorType)], narrowed := true }
def DiskWholeUptoSaid : Prop := diskWholeUptoRow.holds Tryd.pinned (OpenSpec.upto diskWholeSpec)

/-- 'muntinlaw18.DiskPlays', WHERE WHAT IT READS IS OF BULK AT MOST 1048576: true; the input reads as it did. -/
def diskPlaysUptoRow : OpenClaim := { program := "ytjcchjgkkplamaadoor", sum := "fcd9d2b7f7a683902f649eed9d05fd9410f88392fc64d755ad0a6fc9c29b7226", func := "muntin/muntinlaw18.DiskPlays", spec := "diskPlays", inPlace := ["internal/reflectlite.ValueOf", "(internal/reflectlite.Value).Type", "(internal/reflectlite.Value).IsNil", "internal/reflectlite.TypeOf", "(internal/reflectlite.Value).Elem", "(internal/reflectlite.Value).Set"], unfollowed := true, recurses := true, named := ["errors.errorType"], apart := false, laid := [("errors.errorType", laid_errors_errorType)], narrowed := true }
def DiskPlaysUptoSaid : Prop := diskPlaysUptoRow.holds Tryd.pinned (OpenSpec.upto diskPlaysSpec)

/-- 'muntinlaw18.DiskLasts', WHERE WHAT IT READS IS OF BULK AT MOST 1048576: true; the input reads as it did. -/
def diskLastsUptoRow : OpenClaim := { program := "ytjcchjgkkplamaadoor", sum := "fcd9d2b7f7a683902f649eed9d05fd9410f88392fc64d755ad0a6fc9c29b7226", func := "muntin/muntinlaw18.DiskLasts", spec := "diskLasts", inPlace := ["internal/reflectlite.ValueOf", "(internal/reflectlite.Value).Type", "(internal/reflectlite.Value).IsNil", "internal/reflectlite.TypeOf", "(internal/reflectlite.Value).Elem", "(internal/reflectlite.Value).Set"], unfollowed := true, recurses := true, named := ["errors.errorType"], apart := false, laid := [("errors.errorType", laid_errors_errorType)], narrowed := true }
def DiskLastsUptoSaid : Prop := diskLastsUptoRow.holds Tryd.pinned (OpenSpec.upto diskLastsSpec)

/-- 'muntinlaw18.DiskApart', WHERE WHAT IT READS IS OF BULK AT MOST 1048576: true; the input reads as it did. -/
def diskApartUptoRow : OpenClaim := { program := "ytjcchjgkkplamaadoor", sum := "fcd9d2b7f7a683902f649eed9d05fd9410f88392fc64d755ad0a6fc9c29b7226", func := "muntin/muntinlaw18.DiskApart", spec := "diskApart", inPlace := ["internal/reflectlite.ValueOf", "(internal/reflectlite.Value).Type", "(internal/reflectlite.Value).IsNil", "internal/reflectlite.TypeOf", "(internal/reflectlite.Value).Elem", "(internal/reflectlite.Value).Set"], unfollowed := true, recurses := true, named := ["errors.errorType"], apart := false, laid := [("errors.errorType", laid_errors_errorType)], narrowed := true }
def DiskApartUptoSaid : Prop := diskApartUptoRow.holds Tryd.pinned (OpenSpec.upto diskApartSpec)

end Rows
end Go.Proofs.YtjcchjgkkplamaaDoor
