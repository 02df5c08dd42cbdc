/- Layer 1 (wire): numbers in bytes. Plain mathematics. -/
import Derived.Test.YtjcchjgkkplamaaGreatDoorCalc
import Derived.Lib.BitFns
set_option linter.unusedVariables false
namespace Go.Proofs.YtjcchjgkkplamaaGreatDoor
open Go.SW
/-- Big-endian digits: k of them. -/
def dig (n : Nat) : Nat → List UInt8
  | 0 => []
  | k + 1 => dig (n / 256) k ++ [UInt8.ofNat n]
def numLen (n : Nat) : Nat := (Lib.bitLen n + 7) / 8
def numB (n : Nat) : List UInt8 := UInt8.ofNat (numLen n) :: dig n (numLen n)
theorem dig_length (n k : Nat) : (dig n k).length = k := by
  induction k generalizing n with
  | zero => rfl
  | succ k ih => simp [dig, ih]
theorem numB_length (n : Nat) : (numB n).length = numLen n + 1 := by simp [numB, dig_length]
/-- The row while i digits are still to be laid. -/
def numAt (n k i : Nat) : List UInt8 := UInt8.ofNat k :: (List.replicate i 0 ++ (dig n k).drop i)
theorem numAt_length (n k i : Nat) (h : i ≤ k) : (numAt n k i).length = k + 1 := by simp [numAt, dig_length]; omega
theorem dig_get : ∀ (k n j : Nat) (h : j < (dig n k).length), (dig n k)[j] = UInt8.ofNat (n / 256 ^ (k - 1 - j)) := by
  intro k
  induction k with
  | zero => intro n j h; simp [dig] at h
  | succ k ih =>
    intro n j h
    simp only [dig]
    by_cases hj : j < k
    · rw [List.getElem_append_left (by rw [dig_length]; exact hj), ih (n / 256) j (by rw [dig_length]; exact hj), Nat.div_div_eq_div_mul, ← Nat.pow_succ', Nat.succ_eq_add_one]
      rw [show k - 1 - j + 1 = k + 1 - 1 - j from by omega]
    · have : j = k := by simp [dig_length] at h; omega
      subst this
      simp [dig_length]
theorem numAt_step (n k i : Nat) (h0 : 0 < i) (h : i ≤ k) : (numAt n k i).set i (UInt8.ofNat (n / 256 ^ (k - i))) = numAt n k (i - 1) := by
  obtain ⟨j, rfl⟩ : ∃ j, i = j + 1 := ⟨i - 1, by omega⟩
  simp only [numAt, List.set_cons_succ, Nat.add_sub_cancel]
  congr 1
  rw [List.set_append_left _ _ (by simp)]
  rw [List.replicate_succ', List.set_append_right _ _ (by simp)]
  simp only [List.length_replicate, Nat.sub_self, List.set_cons_zero, List.append_assoc, List.singleton_append]
  congr 1
  rw [List.drop_eq_getElem_cons (i := j) (by rw [dig_length]; omega), dig_get]
  rw [show k - 1 - j = k - (j + 1) from by omega]
theorem num_start (n k : Nat) (hk : k ≤ 8) : (List.replicate (1 + k) (Value.int .u8 0)).set (0 * 1) (.int .u8 ((k : Nat) : Int)) = bv (numAt n k k) := by
  have h1 : (UInt8.ofNat k).toNat = k := by rw [UInt8.toNat_ofNat']; omega
  rw [bv_zeros, Nat.add_comm 1 k, List.replicate_succ, Nat.zero_mul]
  have e : Value.int .u8 ((k : Nat) : Int) = .int .u8 (((UInt8.ofNat k).toNat : Nat) : Int) := by rw [h1]
  rw [e, bv_set]
  simp [numAt, List.drop_of_length_le (Nat.le_of_eq (dig_length n k))]
theorem num_end (n : Nat) : numAt n (numLen n) 0 = numB n := by simp [numAt, numB]
/-! ### Numbers read -/
def beVal (l : List UInt8) : Nat := l.foldl (fun n c => n * 256 + c.toNat) 0
theorem beVal_snoc (l : List UInt8) (c : UInt8) : beVal (l ++ [c]) = beVal l * 256 + c.toNat := by simp [beVal]
theorem foldl_lt (l : List UInt8) : ∀ n : Nat, l.foldl (fun n c => n * 256 + c.toNat) n < (n + 1) * 256 ^ l.length := by
  induction l with
  | nil => intro n; simp
  | cons c l ih =>
    intro n
    have h1 := ih (n * 256 + c.toNat)
    have h2 := UInt8.toNat_lt c
    simp only [List.foldl_cons, List.length_cons]
    refine Nat.lt_of_lt_of_le h1 ?_
    rw [Nat.pow_succ, Nat.mul_comm (256 ^ l.length) 256, ← Nat.mul_assoc]
    exact Nat.mul_le_mul_right _ (by omega)
theorem beVal_lt (l : List UInt8) : beVal l < 256 ^ l.length := by have := foldl_lt l 0; simpa [beVal] using this
theorem beVal_cons_lt (c : UInt8) (l : List UInt8) : beVal (c :: l) < (c.toNat + 1) * 256 ^ l.length := by have := foldl_lt l c.toNat; simpa [beVal] using this
/-- A number from the front: what it is, the bytes used, the error. -/
def takeNum (b : List UInt8) : Nat × Nat × Nat :=
  if b.length = 0 then (0, 0, 3) else
  if 8 < gb b 0 then (0, 0, 4) else
  if b.length ≤ gb b 0 then (0, 0, 3) else
  if gb b 0 = 8 ∧ 127 < gb b 1 then (0, 0, 4) else
  if 0 < gb b 0 ∧ gb b 1 = 0 then (0, 0, 4) else
  (beVal ((b.drop 1).take (gb b 0)), 1 + gb b 0, 0)
theorem take_snoc (b : List UInt8) (j : Nat) (h : j + 1 < b.length) : (b.drop 1).take (j + 1) = (b.drop 1).take j ++ [b.getD (j + 1) 0] := by
  rw [List.take_succ_eq_append_getElem (by rw [List.length_drop]; omega)]
  simp [List.getD_eq_getElem?_getD, h, Nat.add_comm]
theorem tn_bound (b : List UInt8) (k j : Nat) (hj : j < k) (hk : k ≤ 8) (h8 : k = 8 → gb b 1 ≤ 127) (hb : k < b.length) : beVal ((b.drop 1).take j) * 256 + 255 < 9223372036854775808 := by
  have hl : ((b.drop 1).take j).length = j := by rw [List.length_take, List.length_drop]; omega
  by_cases h6 : j ≤ 6
  · have h1 := beVal_lt ((b.drop 1).take j)
    rw [hl] at h1
    have h2 : 256 ^ j ≤ 256 ^ 6 := Nat.pow_le_pow_right (by omega) h6
    omega
  · obtain rfl : j = 7 := by omega
    obtain ⟨c, d, l, rfl⟩ : ∃ c d l, b = c :: d :: l := by
      match b, hb with
      | c :: d :: l, _ => exact ⟨c, d, l, rfl⟩
      | [c], hb => simp at hb; omega
      | [], hb => simp at hb
    have h1 := beVal_cons_lt d (l.take 6)
    have h2 : d.toNat ≤ 127 := by have := h8 (by omega); simpa [gb] using this
    have h3 : (l.take 6).length = 6 := by simp at hb; simp; omega
    rw [h3] at h1
    simp only [List.drop_succ_cons, List.drop_zero, List.take_succ_cons]
    omega
/-! ### Blobs -/
def blobB (p : List UInt8) : List UInt8 := if 65536 < p.length then [] else numB p.length ++ p
def takeBlob (b : List UInt8) : List UInt8 × Nat × Nat :=
  if (takeNum b).2.2 ≠ 0 then ([], 0, (takeNum b).2.2) else
  if 65536 < (takeNum b).1 then ([], 0, 2) else
  if b.length - (takeNum b).2.1 < (takeNum b).1 then ([], 0, 3) else
  ((b.drop (takeNum b).2.1).take (takeNum b).1, (takeNum b).2.1 + (takeNum b).1, 0)
theorem takeNum_used (b : List UInt8) : (takeNum b).2.1 ≤ b.length ∧ (takeNum b).2.1 ≤ 9 ∧ ((takeNum b).2.2 = 0 → 1 ≤ (takeNum b).2.1) := by
  unfold takeNum
  split
  · exact ⟨by simp, by simp, by simp⟩
  split
  · exact ⟨by simp, by simp, by simp⟩
  split
  · exact ⟨by simp, by simp, by simp⟩
  split
  · exact ⟨by simp, by simp, by simp⟩
  split
  · exact ⟨by simp, by simp, by simp⟩
  · refine ⟨?_, ?_, ?_⟩ <;> simp only <;> omega
theorem bitLenAux_le : ∀ (f x : Nat), Lib.bitLenAux f x ≤ f := by
  intro f
  induction f with
  | zero => intro x; simp [Lib.bitLenAux]
  | succ f ih => intro x; unfold Lib.bitLenAux; split <;> (try (have := ih (x / 2); omega)) <;> omega
theorem bitLen_le (x : Nat) (_h : x < 9223372036854775808) : Lib.bitLen x ≤ 64 := bitLenAux_le 64 x
theorem numB_le (n : Nat) : (numB n).length ≤ 9 := by have := bitLenAux_le 64 n; have : Lib.bitLen n ≤ 64 := this; rw [numB_length]; unfold numLen; omega
/-! ### The check sum -/
def msk (v : Nat) : Nat := if v % 2 = 1 then 2197175160 else 0
def step1 (v : Nat) : Nat := v / 2 ^^^ msk v
def stepN : Nat → Nat → Nat
  | 0, v => v
  | k + 1, v => step1 (stepN k v)
def tab (i : Nat) : Nat := stepN 4 i
def nib (s : Nat) : Nat := s / 16 ^^^ tab (s % 16)
def crc0 (l : List UInt8) : Nat := l.foldl (fun s c => nib (nib (s ^^^ c.toNat))) 4294967295
def crc (l : List UInt8) : Nat := 4294967295 ^^^ crc0 l
theorem msk_lt (v : Nat) : msk v < 4294967296 := by unfold msk; split <;> omega
theorem step1_lt {v : Nat} (h : v < 4294967296) : step1 v < 4294967296 := Nat.xor_lt_two_pow (n := 32) (by omega) (msk_lt v)
theorem stepN_lt (k : Nat) {v : Nat} (h : v < 4294967296) : stepN k v < 4294967296 := by
  induction k with
  | zero => exact h
  | succ k ih => exact step1_lt ih
theorem nib_lt {s : Nat} (h : s < 4294967296) : nib s < 4294967296 := Nat.xor_lt_two_pow (n := 32) (by omega) (stepN_lt 4 (by omega))
theorem crc0_lt (l : List UInt8) : crc0 l < 4294967296 := by
  unfold crc0
  have : ∀ (l : List UInt8) (s : Nat), s < 4294967296 → l.foldl (fun s c => nib (nib (s ^^^ c.toNat))) s < 4294967296 := by
    intro l
    induction l with
    | nil => intro s h; exact h
    | cons c l ih =>
      intro s h
      have hc := UInt8.toNat_lt c
      exact ih _ (nib_lt (nib_lt (Nat.xor_lt_two_pow (n := 32) h (by omega))))
  exact this l _ (by omega)
theorem crc_lt (l : List UInt8) : crc l < 4294967296 := Nat.xor_lt_two_pow (n := 32) (by omega) (crc0_lt l)
theorem crc0_snoc (l : List UInt8) (c : UInt8) : crc0 (l ++ [c]) = nib (nib (crc0 l ^^^ c.toNat)) := by simp [crc0]
theorem crc0_step (b : List UInt8) (j : Nat) (h : j < b.length) : crc0 (b.take (j + 1)) = nib (nib (crc0 (b.take j) ^^^ gb b j)) := by
  rw [List.take_succ_eq_append_getElem h, crc0_snoc]
  simp [gb, List.getD_eq_getElem?_getD, h]
theorem and1 (v : Nat) : v &&& 1 = v % 2 := Nat.and_one_is_mod v
theorem and15 (v : Nat) : v &&& 15 = v % 16 := Nat.and_two_pow_sub_one_eq_mod v 4
theorem cv_and1 {a : Nat} (h : a < 4294967296) : Value.int .u32 (IntKind.u32.wrap (((BitVec.ofInt 32 ((a : Nat) : Int) &&& BitVec.ofInt 32 1).toNat : Nat) : Int)) = .int .u32 ((a % 2 : Nat) : Int) := by
  have := cv_and_u32 (a := a) (b := 1) h (by omega)
  rw [and1] at this
  exact this
theorem cv_and15 {a : Nat} (h : a < 4294967296) : Value.int .u32 (IntKind.u32.wrap (((BitVec.ofInt 32 ((a : Nat) : Int) &&& BitVec.ofInt 32 15).toNat : Nat) : Int)) = .int .u32 ((a % 16 : Nat) : Int) := by
  have := cv_and_u32 (a := a) (b := 15) h (by omega)
  rw [and15] at this
  exact this
theorem cv_crc (b : List UInt8) (j : Nat) (h : j = b.length) : Value.int .u32 (IntKind.u32.wrap (((BitVec.ofInt 32 4294967295 ^^^ BitVec.ofInt 32 ((crc0 (b.take j) : Nat) : Int)).toNat : Nat) : Int)) = .int .u32 ((crc b : Nat) : Int) := by
  subst h
  rw [List.take_length]
  exact cv_xor_u32 (a := 4294967295) (b := crc0 b) (by omega) (crc0_lt b)
theorem cv_negbit (v : Nat) : Value.int .u32 (IntKind.u32.wrap (0 - ((v % 2 : Nat) : Int))) = .int .u32 ((v % 2 * 4294967295 : Nat) : Int) := by
  rcases Nat.mod_two_eq_zero_or_one v with h | h <;> rw [h] <;> rfl
theorem cv_msk (v : Nat) : Value.int .u32 (IntKind.u32.wrap (((BitVec.ofInt 32 2197175160 &&& BitVec.ofInt 32 ((v % 2 * 4294967295 : Nat) : Int)).toNat : Nat) : Int)) = .int .u32 ((msk v : Nat) : Int) := by
  unfold msk
  rcases Nat.mod_two_eq_zero_or_one v with h | h <;> rw [h] <;> rfl
/-- The table while i of its numbers are there. -/
def tabL (i : Nat) : List Value := (List.range 16).map fun j => .int .u32 ((if j < i then tab j else 0 : Nat) : Int)
theorem tabL_zero : List.replicate 16 (Value.int .u32 0) = tabL 0 := by rfl
theorem tabL_length (i : Nat) : (tabL i).length = 16 := by simp [tabL]
theorem tabL_set (i : Nat) (h : i < 16) : (tabL i).set i (.int .u32 ((tab i : Nat) : Int)) = tabL (i + 1) := by
  apply List.ext_getElem
  · simp [tabL]
  · intro j h1 h2
    simp only [tabL, List.getElem_set, List.getElem_map, List.getElem_range]
    by_cases hij : i = j
    · subst hij; simp
    · simp only [hij, if_false]
      congr 2
      by_cases hj : j < i
      · simp [hj, show j < i + 1 from by omega]
      · simp [hj, show ¬ j < i + 1 from by omega]
theorem tabL_get (j : Nat) (h : j < 16) : (tabL 16)[j]? = some (.int .u32 ((tab j : Nat) : Int)) := by
  simp [tabL, h]
/-! ### Four bytes -/
def four (n : Nat) : List UInt8 := [UInt8.ofNat (n / 16777216), UInt8.ofNat (n / 65536), UInt8.ofNat (n / 256), UInt8.ofNat n]
def get4 (b : List UInt8) : Nat := gb b 0 * 16777216 + gb b 1 * 65536 + gb b 2 * 256 + gb b 3
theorem get4_lt (b : List UInt8) : get4 b < 4294967296 := by
  have := gb_lt b 0; have := gb_lt b 1; have := gb_lt b 2; have := gb_lt b 3
  unfold get4; omega
theorem or_low_k (i n c : Nat) (hc : c < 2 ^ i) : n * 2 ^ i ||| c = n * 2 ^ i + c := by
  have := Nat.two_pow_add_eq_or_of_lt (i := i) hc n
  rw [Nat.mul_comm n]
  exact this.symm
theorem get4_or1 (b : List UInt8) : gb b 0 * 16777216 ||| gb b 1 * 65536 = gb b 0 * 16777216 + gb b 1 * 65536 := or_low_k 24 (gb b 0) _ (by have := gb_lt b 1; omega)
theorem get4_or2 (b : List UInt8) : (gb b 0 * 16777216 + gb b 1 * 65536) ||| gb b 2 * 256 = gb b 0 * 16777216 + gb b 1 * 65536 + gb b 2 * 256 := by
  have := or_low_k 16 (gb b 0 * 256 + gb b 1) (gb b 2 * 256) (by have := gb_lt b 2; omega)
  rw [show (gb b 0 * 256 + gb b 1) * 2 ^ 16 = gb b 0 * 16777216 + gb b 1 * 65536 from by omega] at this
  exact this
theorem get4_or3 (b : List UInt8) : (gb b 0 * 16777216 + gb b 1 * 65536 + gb b 2 * 256) ||| gb b 3 = get4 b := by
  have := or_low_k 8 (gb b 0 * 65536 + gb b 1 * 256 + gb b 2) (gb b 3) (by have := gb_lt b 3; omega)
  rw [show (gb b 0 * 65536 + gb b 1 * 256 + gb b 2) * 2 ^ 8 = gb b 0 * 16777216 + gb b 1 * 65536 + gb b 2 * 256 from by omega] at this
  exact this
theorem four_get4 (n : Nat) (h : n < 4294967296) (l : List UInt8) : get4 (four n ++ l) = n := by
  simp only [get4, four, gb, List.cons_append, List.nil_append, List.getD_eq_getElem?_getD]
  simp only [List.getElem?_cons_zero, List.getElem?_cons_succ, Option.getD_some, UInt8.toNat_ofNat']
  omega
/-! ### Frames -/
def frameB (p : List UInt8) : List UInt8 := four p.length ++ p ++ four (crc (four p.length ++ p))
/-- A frame from the front: its bytes, the bytes used, the error. -/
def openF (b : List UInt8) : List UInt8 × Nat × Nat :=
  if b.length < 4 then ([], 0, 3) else
  if 1048576 < get4 b then ([], 0, 2) else
  if b.length < get4 b + 8 then ([], 0, 3) else
  if crc (b.take (get4 b + 4)) ≠ get4 (b.drop (get4 b + 4)) then ([], 0, 5) else
  ((b.drop 4).take (get4 b), get4 b + 8, 0)
/-- Some bytes laid over others. -/
def patch (xs : List UInt8) (o : Nat) (ys : List UInt8) : List UInt8 := xs.take o ++ ys ++ xs.drop (o + ys.length)
theorem patch_length (xs ys : List UInt8) (o : Nat) (h : o + ys.length ≤ xs.length) : (patch xs o ys).length = xs.length := by simp [patch]; omega
theorem four_length (n : Nat) : (four n).length = 4 := rfl
theorem put4_eq (xs : List UInt8) (o n : Nat) (h : o + 4 ≤ xs.length) :
    ((((bv xs).set ((o + 0) * 1) (.int .u8 (((UInt8.ofNat (n / 16777216)).toNat : Nat) : Int))).set ((o + 1) * 1) (.int .u8 (((UInt8.ofNat (n / 65536)).toNat : Nat) : Int))).set ((o + 2) * 1) (.int .u8 (((UInt8.ofNat (n / 256)).toNat : Nat) : Int))).set ((o + 3) * 1) (.int .u8 (((UInt8.ofNat n).toNat : Nat) : Int)) = bv (patch xs o (four n)) := by
  simp only [bv_set, Nat.mul_one, Nat.add_zero]
  congr 1
  apply List.ext_getElem
  · simp [patch, four]; omega
  · intro j h1 h2
    simp only [List.length_set] at h1
    simp only [List.getElem_set, patch, four]
    by_cases hj : j < o
    · rw [List.getElem_append_left (by simp; omega), List.getElem_append_left (by simp; omega)]
      simp [show ¬ o + 3 = j from by omega, show ¬ o + 2 = j from by omega, show ¬ o + 1 = j from by omega, show ¬ o = j from by omega]
    · by_cases hj4 : j < o + 4
      · rw [List.getElem_append_left (by simp; omega), List.getElem_append_right (by simp; omega)]
        simp only [List.length_take, Nat.min_eq_left (show o ≤ xs.length by omega)]
        have : j = o ∨ j = o + 1 ∨ j = o + 2 ∨ j = o + 3 := by omega
        rcases this with rfl | rfl | rfl | rfl <;> simp
      · rw [List.getElem_append_right (by simp; omega)]
        simp only [List.length_append, List.length_take, List.length_cons, List.length_nil, List.getElem_drop]
        rw [if_neg (by omega), if_neg (by omega), if_neg (by omega), if_neg (by omega)]
        congr 1
        omega
theorem frame_put (p : List UInt8) : patch (List.replicate (p.length + 8) 0) 0 (four p.length) = four p.length ++ List.replicate (p.length + 4) 0 := by
  simp [patch, four_length]
theorem frame_copy (p : List UInt8) : (bv (four p.length ++ List.replicate (p.length + 4) 0)).take 4 ++ (bv p).take (min p.length (p.length + 8 - 4)) ++ (bv (four p.length ++ List.replicate (p.length + 4) 0)).drop (4 + min p.length (p.length + 8 - 4)) = bv (four p.length ++ p ++ List.replicate 4 0) := by
  rw [Nat.min_eq_left (by omega), ← bv_take, ← bv_take, ← bv_drop, ← bv_append, ← bv_append]
  congr 1
  rw [List.take_of_length_le (Nat.le_refl _), List.take_left' (four_length _), List.drop_append, List.drop_of_length_le (by rw [four_length]; omega), four_length]
  simp
theorem frame_sum (p : List UInt8) : ((four p.length ++ p ++ List.replicate 4 0).drop 0).take (p.length + 4 - 0) = four p.length ++ p := by
  rw [List.drop_zero, Nat.sub_zero, List.take_left' (by simp [four_length]; omega)]
theorem frame_end (p : List UInt8) (c : Nat) : patch (four p.length ++ p ++ List.replicate 4 0) (p.length + 4) (four c) = four p.length ++ p ++ four c := by
  unfold patch
  rw [List.take_left' (by simp [four_length]; omega), List.drop_of_length_le (by simp [four_length]; omega), List.append_nil]
def frameO (p : List UInt8) : List UInt8 := if 1048576 < p.length then [] else frameB p
theorem frameB_length (p : List UInt8) : (frameB p).length = p.length + 8 := by simp [frameB, four_length]; omega
end Go.Proofs.YtjcchjgkkplamaaGreatDoor
