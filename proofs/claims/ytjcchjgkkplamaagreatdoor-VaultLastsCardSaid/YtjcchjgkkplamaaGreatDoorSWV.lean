/- The calculus of SW: values spelled as the models have them: whole numbers within their kinds, bytes, strings; ends of rounds. Plain theorems. -/
import Derived.Test.YtjcchjgkkplamaaGreatDoorSWR
import Derived.Laws.StructEq
set_option linter.unusedVariables false
set_option linter.unusedSimpArgs false
set_option maxRecDepth 100000
namespace Go.SW
open Go Go.RowKit
/-! ### Whole numbers -/
theorem cv_i64 {a b : Int} (h : -9223372036854775808 ≤ a ∧ a ≤ 9223372036854775807 ∧ a = b) : Value.int .i64 (IntKind.i64.wrap a) = .int .i64 b := by rw [IntWalk.i64_in _ ⟨h.1, h.2.1⟩, h.2.2]
theorem cv_i32 {a b : Int} (h : -2147483648 ≤ a ∧ a ≤ 2147483647 ∧ a = b) : Value.int .i32 (IntKind.i32.wrap a) = .int .i32 b := by rw [IntWalk.i32_in _ ⟨h.1, h.2.1⟩, h.2.2]
theorem cv_u8 {a b : Int} (h : 0 ≤ a ∧ a ≤ 255 ∧ a = b) : Value.int .u8 (IntKind.u8.wrap a) = .int .u8 b := by rw [IntWalk.u8_in _ ⟨h.1, h.2.1⟩, h.2.2]
theorem cv_u16 {a b : Int} (h : 0 ≤ a ∧ a ≤ 65535 ∧ a = b) : Value.int .u16 (IntKind.u16.wrap a) = .int .u16 b := by rw [IntWalk.u16_in _ ⟨h.1, h.2.1⟩, h.2.2]
theorem cv_u32 {a b : Int} (h : 0 ≤ a ∧ a ≤ 4294967295 ∧ a = b) : Value.int .u32 (IntKind.u32.wrap a) = .int .u32 b := by rw [IntWalk.u32_in _ ⟨h.1, h.2.1⟩, h.2.2]
theorem cv_u64 {a b : Int} (h : 0 ≤ a ∧ a ≤ 18446744073709551615 ∧ a = b) : Value.int .u64 (IntKind.u64.wrap a) = .int .u64 b := by rw [IntWalk.u64_in _ ⟨h.1, h.2.1⟩, h.2.2]
theorem cvq_i64 {a b c : Int} (h : 0 ≤ a ∧ a ≤ 9223372036854775807 ∧ 1 ≤ b ∧ a / b = c) : Value.int .i64 (IntKind.i64.wrap (a.tdiv b)) = .int .i64 c := by rw [IntWalk.i64_quo _ _ ⟨h.1, h.2.1, h.2.2.1⟩, h.2.2.2]
theorem cvr {k : IntKind} {a b c : Int} (h : 0 ≤ a ∧ a % b = c) : Value.int k (a.tmod b) = .int k c := by rw [IntWalk.rem_in _ _ h.1, h.2]
/-- A byte of a number: Go's byte(n). -/
theorem cv_byte (a : Nat) : Value.int .u8 (IntKind.u8.wrap ((a : Nat) : Int)) = .int .u8 (((UInt8.ofNat a).toNat : Nat) : Int) := by
  rw [IntKind.wrap_u8]
  have : ((UInt8.ofNat a).toNat : Int) = (a : Int) % 256 := by rw [UInt8.toNat_ofNat']; omega
  rw [this]
theorem bv_or (w a b : Nat) (ha : a < 2 ^ w) (hb : b < 2 ^ w) : (BitVec.ofInt w (a : Int) ||| BitVec.ofInt w (b : Int)).toNat = a ||| b := by
  simp only [BitVec.ofInt_natCast, BitVec.toNat_or, BitVec.toNat_ofNat, Nat.mod_eq_of_lt ha, Nat.mod_eq_of_lt hb]
theorem bv_and (w a b : Nat) (ha : a < 2 ^ w) (hb : b < 2 ^ w) : (BitVec.ofInt w (a : Int) &&& BitVec.ofInt w (b : Int)).toNat = a &&& b := by
  simp only [BitVec.ofInt_natCast, BitVec.toNat_and, BitVec.toNat_ofNat, Nat.mod_eq_of_lt ha, Nat.mod_eq_of_lt hb]
theorem bv_xor (w a b : Nat) (ha : a < 2 ^ w) (hb : b < 2 ^ w) : (BitVec.ofInt w (a : Int) ^^^ BitVec.ofInt w (b : Int)).toNat = a ^^^ b := by
  simp only [BitVec.ofInt_natCast, BitVec.toNat_xor, BitVec.toNat_ofNat, Nat.mod_eq_of_lt ha, Nat.mod_eq_of_lt hb]
theorem cv_or_u8 {a b : Nat} (ha : a < 256) (hb : b < 256) : Value.int .u8 (IntKind.u8.wrap (((BitVec.ofInt 8 (a : Int) ||| BitVec.ofInt 8 (b : Int)).toNat : Nat) : Int)) = .int .u8 ((a ||| b : Nat) : Int) := by
  rw [bv_or 8 a b ha hb, IntWalk.u8_in _ (by have := Nat.or_lt_two_pow (n := 8) ha hb; omega)]
theorem cv_and_u8 {a b : Nat} (ha : a < 256) (hb : b < 256) : Value.int .u8 (IntKind.u8.wrap (((BitVec.ofInt 8 (a : Int) &&& BitVec.ofInt 8 (b : Int)).toNat : Nat) : Int)) = .int .u8 ((a &&& b : Nat) : Int) := by
  rw [bv_and 8 a b ha hb, IntWalk.u8_in _ (by have := Nat.and_le_left (n := a) (m := b); omega)]
theorem cv_or_u32 {a b : Nat} (ha : a < 4294967296) (hb : b < 4294967296) : Value.int .u32 (IntKind.u32.wrap (((BitVec.ofInt 32 (a : Int) ||| BitVec.ofInt 32 (b : Int)).toNat : Nat) : Int)) = .int .u32 ((a ||| b : Nat) : Int) := by
  rw [bv_or 32 a b ha hb, IntWalk.u32_in _ (by have := Nat.or_lt_two_pow (n := 32) ha hb; omega)]
theorem cv_and_u32 {a b : Nat} (ha : a < 4294967296) (hb : b < 4294967296) : Value.int .u32 (IntKind.u32.wrap (((BitVec.ofInt 32 (a : Int) &&& BitVec.ofInt 32 (b : Int)).toNat : Nat) : Int)) = .int .u32 ((a &&& b : Nat) : Int) := by
  rw [bv_and 32 a b ha hb, IntWalk.u32_in _ (by have := Nat.and_le_left (n := a) (m := b); omega)]
theorem cv_xor_u32 {a b : Nat} (ha : a < 4294967296) (hb : b < 4294967296) : Value.int .u32 (IntKind.u32.wrap (((BitVec.ofInt 32 (a : Int) ^^^ BitVec.ofInt 32 (b : Int)).toNat : Nat) : Int)) = .int .u32 ((a ^^^ b : Nat) : Int) := by
  rw [bv_xor 32 a b ha hb, IntWalk.u32_in _ (by have := Nat.xor_lt_two_pow (n := 32) ha hb; omega)]
theorem cv_or_i64 {a b : Nat} (ha : a < 9223372036854775808) (hb : b < 9223372036854775808) : Value.int .i64 (IntKind.i64.wrap (((BitVec.ofInt 64 (a : Int) ||| BitVec.ofInt 64 (b : Int)).toNat : Nat) : Int)) = .int .i64 ((a ||| b : Nat) : Int) := by
  rw [bv_or 64 a b (by omega) (by omega), IntWalk.i64_in _ (by have := Nat.or_lt_two_pow (n := 63) ha hb; omega)]
theorem cv_and_i64 {a b : Nat} (ha : a < 9223372036854775808) (hb : b < 9223372036854775808) : Value.int .i64 (IntKind.i64.wrap (((BitVec.ofInt 64 (a : Int) &&& BitVec.ofInt 64 (b : Int)).toNat : Nat) : Int)) = .int .i64 ((a &&& b : Nat) : Int) := by
  rw [bv_and 64 a b (by omega) (by omega), IntWalk.i64_in _ (by have := Nat.and_le_left (n := a) (m := b); omega)]
theorem cv_shr {k : IntKind} {a s c : Nat} (h : a / 2 ^ s = c := by rfl) : Value.int k (Int.fdiv ((a : Nat) : Int) (2 ^ s)) = .int k ((c : Nat) : Int) := by
  subst h
  congr 1
  rw [Int.fdiv_eq_ediv_of_nonneg _ (by exact_mod_cast Nat.zero_le (2 ^ s))]
  norm_cast
theorem cv_shl_i64 {a s c : Nat} (h : a * 2 ^ s = c ∧ c ≤ 9223372036854775807) : Value.int .i64 (IntKind.i64.wrap (((a : Nat) : Int) * 2 ^ s)) = .int .i64 ((c : Nat) : Int) := by
  obtain ⟨rfl, h2⟩ := h
  have e : ((a : Nat) : Int) * 2 ^ s = ((a * 2 ^ s : Nat) : Int) := by push_cast; rfl
  rw [e, IntWalk.i64_in _ (by omega)]
theorem or_low (n c : Nat) (hc : c < 256) : n * 256 ||| c = n * 256 + c := by
  have := Nat.two_pow_add_eq_or_of_lt (i := 8) hc n
  rw [Nat.mul_comm n 256]
  exact this.symm
theorem cv_or_low {n c : Nat} (hc : c < 256) (hn : n * 256 + 255 < 9223372036854775808) : Value.int .i64 (IntKind.i64.wrap (((BitVec.ofInt 64 ((n * 256 : Nat) : Int) ||| BitVec.ofInt 64 ((c : Nat) : Int)).toNat : Nat) : Int)) = .int .i64 ((n * 256 + c : Nat) : Int) := by
  rw [cv_or_i64 (by omega) (by omega), or_low n c hc]
/-! ### Bytes and strings -/
/-- Bytes as cells. -/
def bv (l : List UInt8) : List Value := l.map fun b => .int .u8 ((b.toNat : Nat) : Int)
theorem bv_length (l : List UInt8) : (bv l).length = l.length := by simp [bv]
theorem bv_append (a b : List UInt8) : bv (a ++ b) = bv a ++ bv b := by simp [bv]
theorem bv_take (l : List UInt8) (k : Nat) : bv (l.take k) = (bv l).take k := by simp [bv, List.map_take]
theorem bv_drop (l : List UInt8) (k : Nat) : bv (l.drop k) = (bv l).drop k := by simp [bv, List.map_drop]
theorem bv_get (l : List UInt8) (j : Nat) (h : j < l.length) : (bv l)[j]? = some (.int .u8 ((l[j].toNat : Nat) : Int)) := by simp [bv, h]
theorem bv_set (l : List UInt8) (j : Nat) (b : UInt8) : (bv l).set j (.int .u8 ((b.toNat : Nat) : Int)) = bv (l.set j b) := by simp [bv, List.map_set]
theorem bv_zeros (k : Nat) : List.replicate k (Value.int .u8 0) = bv (List.replicate k 0) := by simp [bv]
theorem bv_one (l : List UInt8) : ∀ u ∈ bv l, u.oneCell' = true := by
  intro u hu
  obtain ⟨_, _, rfl⟩ := List.mem_map.1 hu
  rfl
/-- Byte j. -/
def gb (l : List UInt8) (j : Nat) : Nat := (l.getD j 0).toNat
theorem gb_lt (l : List UInt8) (j : Nat) : gb l j < 256 := UInt8.toNat_lt _
theorem bv_at (l : List UInt8) (j : Nat) (h : j < l.length) : (bv l)[j * 1 + 0]? = some (.int .u8 ((gb l j : Nat) : Int)) := by
  rw [Nat.mul_one, Nat.add_zero, bv_get l j h]
  simp [gb, List.getD_eq_getElem?_getD, h]
/-- A slice of bytes that is read. -/
def RB (c : Zone) (v : Value) (l : List UInt8) : Prop := Row c v 1 l.length (bv l)
theorem RB.row {c : Zone} {v : Value} {l : List UInt8} (h : RB c v l) : Row c v 1 l.length (bv l) := h
theorem RB.le {c : Zone} {v : Value} {l : List UInt8} (h : RB c v l) : l.length ≤ 9223372036854775807 := by
  obtain ⟨_, A, cap, _, h1, h2, _⟩ := h
  simp only [maxLen] at h2
  omega
theorem bv_cut_at (b : List UInt8) (k j : Nat) (hj : j < k) (hk : k < b.length) : (((bv b).drop (1 * 1)).take ((1 + k - 1) * 1))[j * 1 + 0]? = some (.int .u8 ((gb b (1 + j) : Nat) : Int)) := by
  have := bv_at b (1 + j) (by omega)
  rw [List.getElem?_take, if_pos (by omega), List.getElem?_drop]
  rw [← this]
  congr 1
  omega
theorem RB.mono {c c' : Zone} {v : Value} {l : List UInt8} (h : RB c v l) (hc : c.le c') : RB c' v l := Row.mono h hc
theorem RB.cut {c : Zone} {v : Value} {l : List UInt8} {a b : Nat} (h : Row c v 1 (b - a) (((bv l).drop (a * 1)).take ((b - a) * 1))) (hb : b ≤ l.length) : RB c v ((l.drop a).take (b - a)) := by
  unfold RB
  rw [bv_take, bv_drop]
  simp only [Nat.mul_one] at h
  rw [List.length_take, List.length_drop, Nat.min_eq_left (by omega)]
  exact h
theorem RB.tail {c : Zone} {v : Value} {l : List UInt8} {a : Nat} (h : Row c v 1 (l.length - a) (((bv l).drop (a * 1)).take ((l.length - a) * 1))) : RB c v (l.drop a) := by
  have := RB.cut h (Nat.le_refl _)
  rwa [List.take_of_length_le (by simp)] at this
theorem RB.head {c : Zone} {v : Value} {l : List UInt8} {b : Nat} (h : Row c v 1 (b - 0) (((bv l).drop (0 * 1)).take ((b - 0) * 1))) (hb : b ≤ l.length) : RB c v (l.take b) := by
  have := RB.cut h hb
  simpa using this
theorem RB.of_win {c : Zone} {v : Value} {l : List UInt8} {o n : Nat} (h : Row c v 1 n (((bv l).drop (o * 1)).take (n * 1))) (ho : o + n ≤ l.length) : RB c v ((l.drop o).take n) := by
  unfold RB
  rw [bv_take, bv_drop]
  simp only [Nat.mul_one] at h
  rw [List.length_take, List.length_drop, Nat.min_eq_left (by omega)]
  exact h
theorem RB.of_tail {c : Zone} {v : Value} {l : List UInt8} {o : Nat} (h : Row c v 1 (l.length - o) (((bv l).drop (o * 1)).take ((l.length - o) * 1))) : RB c v (l.drop o) := RB.tail h
def bs (l : List UInt8) : ByteArray := ⟨l.toArray⟩
theorem bs_size (l : List UInt8) : (bs l).size = l.length := by simp [bs, ByteArray.size]
theorem bs_toList (l : List UInt8) : (bs l).toList = l := ByteArray.toList_mk l
theorem bs_inj {x y : List UInt8} (h : bs x = bs y) : x = y := by
  have := congrArg ByteArray.toList h
  rwa [bs_toList, bs_toList] at this
theorem cv_beq (x y : List UInt8) : Value.bool (bs x == bs y) = .bool (x == y) := by
  rw [beq_toListBytes, bs_toList, bs_toList]
theorem cv_bne (x y : List UInt8) : Value.bool (!(bs x == bs y)) = .bool (x != y) := by
  have := cv_beq x y
  simp only [Value.bool.injEq] at this
  rw [this]; rfl
theorem cv_bapp (x y : List UInt8) : Value.string (bs x ++ bs y) = .string (bs (x ++ y)) := by
  congr 1
theorem cv_minN {k : IntKind} {a b : Nat} : Value.int k (if ((b : Nat) : Int) < ((a : Nat) : Int) then ((b : Nat) : Int) else ((a : Nat) : Int)) = .int k ((min a b : Nat) : Int) := by
  congr 1
  rw [Nat.min_def]
  split <;> split <;> omega
theorem cv_maxN {k : IntKind} {a b : Nat} : Value.int k (if ((b : Nat) : Int) > ((a : Nat) : Int) then ((b : Nat) : Int) else ((a : Nat) : Int)) = .int k ((max a b : Nat) : Int) := by
  congr 1
  rw [Nat.max_def]
  split <;> split <;> omega
theorem cv_minI {k : IntKind} {a b : Int} : Value.int k (if b < a then b else a) = .int k (min a b) := by
  congr 1
  rw [Int.min_def]
  split <;> split <;> omega
theorem cv_minI3 {k : IntKind} {a b c : Int} : Value.int k (if c < (if b < a then b else a) then c else if b < a then b else a) = .int k (min (min a b) c) := by
  congr 1
  simp only [Int.min_def]
  split <;> split <;> split <;> (try split) <;> omega
section
variable {P : Program} {fr : Fr} {w : World} {d : Option Tmp} {ty : TypeId} {pos : String} {aft : Array Edge} {g : Option (Nat × Bool)}
def isStrT (P : Program) (t : TypeId) : Bool :=
  match P.underlying t with
  | some .string => true
  | _ => false
theorem underlying_of_str {t : TypeId} (h : isStrT P t = true) : P.underlying t = some .string := by
  unfold isStrT at h
  cases hu : P.underlying t with
  | none => simp [hu] at h
  | some D => cases D <;> simp_all
theorem rd_sidx {t : TypeId} {x y : Operand} (ht : isStrT P t = true) {l : List UInt8} (hx : ev fr x = .string (bs l)) {k : IntKind} (j : Nat) (hy : ev fr y = .int k (j : Nat)) (hj : j < l.length) :
    Runs P fr ⟨d, .index t x y, ty, pos, aft, g⟩ (.int .u8 ((gb l j : Nat) : Int)) w := by
  have h1 : (bs l)[j]? = some l[j] := by
    have : j < (bs l).size := by rw [bs_size]; exact hj
    rw [getElem?_pos (bs l) j this]
    rfl
  have h2 : l[j].toNat = gb l j := by simp [gb, List.getD_eq_getElem?_getD, hj]
  simp [Runs, execOp, hx, hy, Instr.index, asIntOf, run_underlying (underlying_of_str ht), h1, h2, Result.andThen]
theorem bs_extract (l : List UInt8) (a b : Nat) : (bs l).extract a b = bs ((l.drop a).take (b - a)) := by
  apply ByteArray.ext
  simp [bs, ByteArray.data_extract]
theorem rd_scut {t : TypeId} {x : Operand} {lo hi' : Option Operand} (ht : isStrT P t = true) {l : List UInt8} (hx : ev fr x = .string (bs l)) {a b : Nat} (hlo : bnd fr lo a 0) (hhi : bnd fr hi' b l.length) (hab : a ≤ b) (hb : b ≤ l.length) :
    Runs P fr ⟨d, .slice t x lo hi' none, ty, pos, aft, g⟩ (.string (bs ((l.drop a).take (b - a)))) w := by
  have hai : (a : Int) ≤ (b : Int) := by omega
  have hbc : (b : Int) ≤ (l.length : Int) := by omega
  have ha0 : (0 : Int) ≤ (a : Int) := by omega
  have hb0 : (0 : Int) ≤ (b : Int) := by omega
  have hst := underlying_of_str ht
  have hsz := bs_size l
  have he := bs_extract l a b
  unfold Runs
  rcases hlo with ⟨rfl, rfl⟩ | ⟨xl, kl, rfl, hxl⟩ <;> rcases hhi with ⟨rfl, rfl⟩ | ⟨xh, kh, rfl, hxh⟩ <;>
    simp [execOp, hx, Instr.sliceAt, Instr.slice, Instr.sliceBounds, Instr.sliceBound, asIntOf, run_underlying hst, Result.andThen, *] <;> simp_all
end
theorem RB.nil (c : Zone) : RB c (.slice none 0 0) [] := Row.nil c 1
/-! ### Errors of one number -/
def errW (T : TypeId) (e : Nat) : Value := if e = 0 then .nilIface else .iface T (.int .i64 ((e : Nat) : Int))
def isIfaceT (P : Program) (t : TypeId) : Bool :=
  match P.underlying t with
  | some (.interface _) => true
  | _ => false
section
variable {P : Program} {n : Nat} {ops : Array Oper} {Q : Exit → Act → World → Prop} {i : Nat} {fr : Fr} {w : World}
variable {d : Option Tmp} {ty : TypeId} {pos : String} {aft : Array Edge} {g : Option (Nat × Bool)}
theorem run_eqn0 (k : Nat) {t : TypeId} {D : Array (String × TypeId)} (hu : P.underlying t = some (.interface D)) : (Op.equalIn (k + 1) t .nilIface .nilIface).run P w = .ok true w := by
  simp [Op.equalIn, run_underlying hu]
theorem run_eqn1 (k : Nat) {t T : TypeId} {v : Value} {D : Array (String × TypeId)} (hu : P.underlying t = some (.interface D)) : (Op.equalIn (k + 1) t (.iface T v) .nilIface).run P w = .ok false w := by
  simp [Op.equalIn, run_underlying hu]
theorem run_errcmp {t T : TypeId} {e : Nat} (ht : isIfaceT P t = true) : (Op.equal t (errW T e) .nilIface).run P w = .ok (e == 0) w := by
  unfold isIfaceT at ht
  cases hu : P.underlying t with
  | none => simp [hu] at ht
  | some D =>
    cases D with
    | interface D =>
      unfold Op.equal Op.maxDepth errW
      by_cases he : e = 0
      · rw [if_pos he, run_eqn0 9999 hu]; simp [he]
      · rw [if_neg he, run_eqn1 9999 hu]; simp [he]
    | _ => simp [hu] at ht
theorem run_errguard {op : BinOp} {t T : TypeId} {x : Operand} {e : Nat} : (eqGuard op t x (.const .nilIface) (errW T e) .nilIface).run P w = .ok () w := by
  unfold eqGuard errW
  by_cases he : e = 0
  · rw [if_pos he]; cases op <;> simp
  · rw [if_neg he]; cases op <;> simp
theorem binOp_neq_err {t T : TypeId} {e : Nat} : binOp .neq t (errW T e) .nilIface = (do pure (.bool (!(← Op.equal t (errW T e) .nilIface)))) := by
  unfold errW
  by_cases he : e = 0
  · rw [if_pos he]; rfl
  · rw [if_neg he]; rfl
theorem binOp_eql_err {t T : TypeId} {e : Nat} : binOp .eql t (errW T e) .nilIface = (do pure (.bool (← Op.equal t (errW T e) .nilIface))) := by
  unfold errW
  by_cases he : e = 0
  · rw [if_pos he]; rfl
  · rw [if_neg he]; rfl
theorem ev_const (fr : Fr) (v : Value) : ev fr (.const v) = v := rfl
theorem rd_err_ne {t t2 : TypeId} {x : Operand} (ht : isIfaceT P t = true) {T : TypeId} {e : Nat} (hx : ev fr x = errW T e) : Runs P fr ⟨d, .binOp .neq t x (.const .nilIface) t2, ty, pos, aft, g⟩ (.bool (e != 0)) w := by
  unfold Runs
  simp only [execOp, hx, ev_const, Sem.run_bind, run_errguard, Result.andThen_ok, binOp_neq_err, run_errcmp ht, Sem.run_pure]
  rfl
theorem rd_err_eq {t t2 : TypeId} {x : Operand} (ht : isIfaceT P t = true) {T : TypeId} {e : Nat} (hx : ev fr x = errW T e) : Runs P fr ⟨d, .binOp .eql t x (.const .nilIface) t2, ty, pos, aft, g⟩ (.bool (e == 0)) w := by
  unfold Runs
  simp only [execOp, hx, ev_const, Sem.run_bind, run_errguard, Result.andThen_ok, binOp_eql_err, run_errcmp ht, Sem.run_pure]
end
theorem errW_cells (T : TypeId) (e : Nat) : (errW T e).cells = #[errW T e] := by unfold errW; split <;> rfl
theorem errW_one (T : TypeId) (e : Nat) : (errW T e).oneCell' = true := by unfold errW; split <;> rfl
theorem errW_pos {T : TypeId} {e : Nat} (h : e ≠ 0) : errW T e = .iface T (.int .i64 ((e : Nat) : Int)) := by unfold errW; rw [if_neg h]
/-- A nil interface, or a value of type T. -/
def ifW (z : Bool) (T : TypeId) (v : Value) : Value := bif z then .nilIface else .iface T v
section
variable {P : Program} {fr : Fr} {w : World}
variable {d : Option Tmp} {ty : TypeId} {pos : String} {aft : Array Edge} {g : Option (Nat × Bool)}
theorem rd_if_ne {t t2 : TypeId} {x : Operand} (ht : isIfaceT P t = true) {z : Bool} {T : TypeId} {v : Value} (hx : ev fr x = ifW z T v) : Runs P fr ⟨d, .binOp .neq t x (.const .nilIface) t2, ty, pos, aft, g⟩ (.bool !z) w := by
  unfold isIfaceT at ht
  cases hu : P.underlying t with
  | none => simp [hu] at ht
  | some D =>
    cases D with
    | interface D =>
      unfold Runs
      cases z with
      | true =>
        have h : (Op.equal t .nilIface .nilIface).run P w = .ok true w := run_eqn0 9999 hu
        simp only [execOp, hx, ev_const, ifW, cond_true, Sem.run_bind]
        rw [show (eqGuard .neq t x (.const .nilIface) .nilIface .nilIface).run P w = .ok () w from by simp [eqGuard]]
        simp only [Result.andThen_ok]
        rw [show binOp .neq t .nilIface .nilIface = (do pure (.bool (!(← Op.equal t .nilIface .nilIface)))) from rfl]
        simp only [Sem.run_bind, h, Result.andThen_ok, Sem.run_pure]
      | false =>
        have h : (Op.equal t (.iface T v) .nilIface).run P w = .ok false w := run_eqn1 9999 hu
        simp only [execOp, hx, ev_const, ifW, cond_false, Sem.run_bind]
        rw [show (eqGuard .neq t x (.const .nilIface) (.iface T v) .nilIface).run P w = .ok () w from by simp [eqGuard]]
        simp only [Result.andThen_ok]
        rw [show binOp .neq t (.iface T v) .nilIface = (do pure (.bool (!(← Op.equal t (.iface T v) .nilIface)))) from rfl]
        simp only [Sem.run_bind, h, Result.andThen_ok, Sem.run_pure]
    | _ => simp [hu] at ht
end
theorem RB.none {c : Zone} {n cap : Nat} {l : List UInt8} (h : RB c (.slice none n cap) l) : l = [] := by
  obtain ⟨h0, A, cap', e, _, _, hc⟩ := h
  cases l with
  | nil => rfl
  | cons b l =>
    cases e
    obtain ⟨ad, e', _⟩ := hc 0 _ rfl
    cases e'
theorem rb_own {w0 w : World} {z : Zone} {F : List Nat} {os : List Own} (hH : Hp w0 w z F os) (k : Nat) {v : Value} {e : TypeId} {l : List UInt8} (hk : os[k]? = some (.row v e 1 l.length (bv l))) : RB w.cell? v l := hH.row_reads k hk
/-! ### Ends -/
section
variable {P : Program} {n : Nat} {Q : Exit → Act → World → Prop} {fr : Fr} {w : World}
theorem thR {K : Act → World → Prop} (h : At n Q .ret fr w) : At n (Exit.then K Q) .ret fr w := h
theorem thX {K : Act → World → Prop} {id : Nat} (h : At n Q (.exit id) fr w) : At n (Exit.then K Q) (.exit id) fr w := h
theorem bkR {id : Nat} (h : At n Q .ret fr w) : At n (Exit.inBlock id Q) .ret fr w := h
theorem bkN {id : Nat} (h : At n Q .normal fr w) : At n (Exit.inBlock id Q) .normal fr w := h
theorem bkX {id id' : Nat} (hne : Nat.beq id' id = false) (h : At n Q (.exit id') fr w) : At n (Exit.inBlock id Q) (.exit id') fr w := by
  intro a ha
  have : ¬ id' = id := by rw [← Nat.beq_eq]; simp [hne]
  simp only [Exit.inBlock, if_neg this]
  exact h a ha
theorem bkH {id : Nat} (h : At n Q .normal fr w) : At n (Exit.inBlock id Q) (.exit id) fr w := by
  intro a ha
  simp only [Exit.inBlock, if_true]
  exact h a ha
theorem rnd_end {γ : Type} {F : γ → Fr} {I : γ → World → Prop} {μ : γ → Nat} {g : γ} (g' : γ) (hs : ((F g').map fun p => gt fr p.1) = (F g').map fun p => some p.2) (hI : I g' w) (hm : μ g' < μ g) :
    At n (Exit.then (fun a w' => ∃ g', Fits n (F g') a ∧ I g' w' ∧ μ g' < μ g) Q) .normal fr w := fun a ha => ⟨g', ha.sub (Sub.of_eq hs), hI, hm⟩
end
end Go.SW
