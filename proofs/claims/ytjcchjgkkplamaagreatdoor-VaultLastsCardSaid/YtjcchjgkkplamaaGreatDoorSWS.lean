/- The calculus of SW: bytes read as a string. Plain theorems. -/
import Derived.Test.YtjcchjgkkplamaaGreatDoorSWV
import Derived.Laws.BytesArg
import Derived.MapKept
set_option linter.unusedVariables false
set_option linter.unusedSimpArgs false
set_option maxRecDepth 100000
namespace Go.SW
open Go Go.RowKit
section
variable {P : Program} {fr : Fr} {w : World} {d : Option Tmp} {ty : TypeId} {pos : String} {aft : Array Edge} {g : Option (Nat × Bool)}
theorem run_str {t t2 e : TypeId} (ht : elemT P t = some e) (he : P.underlying e = some (.int .u8)) (h2 : P.underlying t2 = some .string) {v : Value} {l : List UInt8} (hb : RB w.cell? v l) : (convert t t2 v).run P w = .ok (.string (bs l)) w := by
  obtain ⟨h0, A, cap, rfl, h1, hm, h3⟩ := hb.row
  cases A with
  | none =>
    have hl : l = [] := hb.none
    subst hl
    rw [run_convert_bytes_nil w t e (underlying_of_elem ht) he _ _ t2 h2]
    rfl
  | some a =>
    rw [run_convert_bytes_string w t t2 e _ _ _ (underlying_of_elem ht) he h2]
    have hload : (loadCells a l.length).run P w = .ok ((l.map fun c => ((c.toNat : Nat) : Int)).map (Value.int .u8)).toArray w := by
      have := run_loadCells_list (P := P) (w := w) a (bv l) (fun j u hu => by
        obtain ⟨ad, e1, e2⟩ := h3 j u hu
        cases e1
        exact e2)
      rw [bv_length] at this
      rw [this]
      simp [bv, Function.comp_def]
    rw [run_bytesToString w a _ _ _ hload, foldl_push_bytes]
    simp only [bs, List.map_map]
    congr 2
    simp [ByteArray.empty, ByteArray.emptyWithCapacity, Function.comp_def]
    rfl
theorem rd_str {t t2 e : TypeId} {x : Operand} (ht : elemT P t = some e) (he : P.underlying e = some (.int .u8)) (h2 : P.underlying t2 = some .string) {v : Value} {l : List UInt8} (hx : ev fr x = v) (hb : RB w.cell? v l) : Runs P fr ⟨d, .convert t t2 x, ty, pos, aft, g⟩ (.string (bs l)) w := by
  subst hx
  simp [Runs, execOp, run_str (P := P) ht he h2 hb, Result.andThen]
theorem rd_seql {t t2 : TypeId} {x y : Operand} (ht : P.underlying t = some .string) {l l2 : List UInt8} (hx : ev fr x = .string (bs l)) (hy : ev fr y = .string (bs l2)) : Runs P fr ⟨d, .binOp .eql t x y t2, ty, pos, aft, g⟩ (.bool (l == l2)) w := by
  simp [Runs, execOp, hx, hy, eqGuard, binOp, Op.stringOp, bs_toList, Result.andThen]
theorem rd_sneq {t t2 : TypeId} {x y : Operand} (ht : P.underlying t = some .string) {l l2 : List UInt8} (hx : ev fr x = .string (bs l)) (hy : ev fr y = .string (bs l2)) : Runs P fr ⟨d, .binOp .neq t x y t2, ty, pos, aft, g⟩ (.bool (!(l == l2))) w := by
  simp [Runs, execOp, hx, hy, eqGuard, binOp, Op.stringOp, bs_toList, Result.andThen]
end
end Go.SW
