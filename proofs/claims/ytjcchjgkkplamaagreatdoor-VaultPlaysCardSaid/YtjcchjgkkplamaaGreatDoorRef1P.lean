/- Layer 1, the document's own answer: digits, numbers, the check sum bit by bit: as the program's. Plain mathematics. -/
import Derived.Test.YtjcchjgkkplamaaGreatDoorRoundP
set_option linter.unusedVariables false
namespace Go.Proofs.YtjcchjgkkplamaaGreatDoor
open Go.SW
def digB (n : Nat) : List UInt8 := dig n (numLen n)
theorem digB_length (n : Nat) : (digB n).length = numLen n := dig_length _ _
theorem digB_le (n : Nat) (h : n < 9223372036854775808) : (digB n).length ≤ 8 := by rw [digB_length]; exact (numLen_bd n h).2.1
theorem numLen_step (n : Nat) (h0 : n ≠ 0) (h : n < 9223372036854775808) : numLen n = numLen (n / 256) + 1 := by
  by_cases h1 : n < 256
  · have e : n / 256 = 0 := by omega
    rw [e]
    have hb := (numLen_bd n h).2.2 h0
    have e0 : numLen 0 = 0 := by decide
    rw [e0]
    refine Classical.byContradiction fun hc => ?_
    have h2 : 256 ^ 1 ≤ 256 ^ (numLen n - 1) := Nat.pow_le_pow_right (by omega) (by omega)
    omega
  · unfold numLen
    rw [Lib.bitLen_shift8 n (by omega) (by omega)]
    omega
theorem digB_step (n : Nat) (h0 : n ≠ 0) (h : n < 9223372036854775808) : digB n = digB (n / 256) ++ [UInt8.ofNat (n % 256)] := by
  unfold digB
  rw [numLen_step n h0 h]
  show dig (n / 256) (numLen (n / 256)) ++ [UInt8.ofNat n] = _
  congr 2
  apply UInt8.toNat_inj.1
  simp
theorem numB_dig (n : Nat) : numB n = [UInt8.ofNat (digB n).length] ++ digB n := by rw [digB_length]; rfl
/-! ### The check sum -/
theorem msk_xor (a b : Nat) : msk (a ^^^ b) = msk a ^^^ msk b := by
  have h : (a ^^^ b) % 2 = (a % 2 + b % 2) % 2 := by
    have h1 : (a ^^^ b) % 2 ^ 1 = a % 2 ^ 1 ^^^ b % 2 ^ 1 := Nat.xor_mod_two_pow
    rw [Nat.pow_one] at h1
    rw [h1]
    rcases Nat.mod_two_eq_zero_or_one a with ha | ha <;> rcases Nat.mod_two_eq_zero_or_one b with hb | hb <;> rw [ha, hb] <;> rfl
  unfold msk
  rw [h]
  rcases Nat.mod_two_eq_zero_or_one a with ha | ha <;> rcases Nat.mod_two_eq_zero_or_one b with hb | hb <;> simp [ha, hb]
theorem step1_xor (a b : Nat) : step1 (a ^^^ b) = step1 a ^^^ step1 b := by
  unfold step1
  rw [msk_xor]
  have h : (a ^^^ b) / 2 = a / 2 ^^^ b / 2 := by
    have e : ∀ x : Nat, x / 2 = x >>> 1 := fun x => by rw [Nat.shiftRight_eq_div_pow]
    rw [e, e, e, Nat.shiftRight_xor_distrib]
  rw [h]
  ac_rfl
theorem stepN_xor (k a b : Nat) : stepN k (a ^^^ b) = stepN k a ^^^ stepN k b := by
  induction k with
  | zero => rfl
  | succ k ih => show step1 (stepN k (a ^^^ b)) = _; rw [ih, step1_xor]; rfl
theorem step1_even (h : Nat) : step1 (2 * h) = h := by
  unfold step1 msk
  rw [if_neg (by omega)]
  simp
theorem stepN_add (j k v : Nat) : stepN (j + k) v = stepN j (stepN k v) := by
  induction j with
  | zero => rw [Nat.zero_add]; rfl
  | succ j ih => rw [Nat.succ_add]; show step1 (stepN (j + k) v) = _; rw [ih]; rfl
theorem stepN4_16 (h : Nat) : stepN 4 (16 * h) = h := by
  show step1 (step1 (step1 (step1 (16 * h)))) = h
  rw [show 16 * h = 2 * (8 * h) by omega, step1_even, show 8 * h = 2 * (4 * h) by omega, step1_even, show 4 * h = 2 * (2 * h) by omega, step1_even, step1_even]
theorem nib_stepN (s : Nat) : nib s = stepN 4 s := by
  have e : s = 16 * (s / 16) ^^^ s % 16 := by
    apply Nat.eq_of_testBit_eq
    intro j
    rw [Nat.testBit_xor]
    have hm : s % 16 = s % 2 ^ 4 := rfl
    have hs : 16 * (s / 16) = (s >>> 4) <<< 4 := by rw [Nat.shiftLeft_eq, Nat.shiftRight_eq_div_pow, Nat.mul_comm]
    rw [hm, Nat.testBit_mod_two_pow, hs, Nat.testBit_shiftLeft, Nat.testBit_shiftRight]
    by_cases h : j < 4
    · simp [h, show ¬ 4 ≤ j by omega]
    · have e4 : 4 + (j - 4) = j := by omega
      simp [h, e4]
      omega
  conv => rhs; rw [e, stepN_xor, stepN4_16]
  rfl
theorem crc_bits (s : Nat) : stepN 8 s = nib (nib s) := by
  rw [nib_stepN, nib_stepN, ← stepN_add]
theorem step_odd {v : Nat} (h : v % 2 = 1) : v / 2 ^^^ 2197175160 = step1 v := by unfold step1 msk; rw [if_pos h]
theorem step_even {v : Nat} (h : ¬ v % 2 = 1) : v / 2 = step1 v := by unfold step1 msk; rw [if_neg h]; simp
/-! ### Numbers read -/
theorem be_le (l : List UInt8) (j k : Nat) (hk : j ≤ k) : beVal (l.take j) < 256 ^ k := by
  refine Nat.lt_of_lt_of_le (beVal_lt _) (Nat.pow_le_pow_right (by omega) ?_)
  rw [List.length_take]; omega
theorem be_7 (b : List UInt8) (j : Nat) (hj : j ≤ 7) : beVal ((b.drop 1).take j) < 72057594037927936 := be_le _ j 7 hj
theorem foldl_ge (l : List UInt8) : ∀ n : Nat, n * 256 ^ l.length ≤ l.foldl (fun n c => n * 256 + c.toNat) n := by
  induction l with
  | nil => intro n; simp
  | cons c l ih =>
    intro n
    have h1 := ih (n * 256 + c.toNat)
    simp only [List.foldl_cons, List.length_cons]
    refine Nat.le_trans ?_ h1
    rw [Nat.pow_succ', ← Nat.mul_assoc]
    exact Nat.mul_le_mul_right _ (by omega)
theorem tn_big {b : List UInt8} {k : Nat} (hk : k ≤ 8) (hb : k < b.length) : 9223372036854775807 < beVal ((b.drop 1).take k) ↔ (k = 8 ∧ 127 < gb b 1) := by
  by_cases h8 : k = 8
  · subst h8
    have e : (b.drop 1).take 8 = b.getD 1 0 :: (b.drop 2).take 7 := by
      rw [List.drop_eq_getElem_cons (show 1 < b.length by omega), List.take_succ_cons, List.getD_eq_getElem?_getD, List.getElem?_eq_getElem (show 1 < b.length by omega)]
      rfl
    have hl : ((b.drop 2).take 7).length = 7 := by simp; omega
    have h1 := beVal_cons_lt (b.getD 1 0) ((b.drop 2).take 7)
    have h2 := foldl_ge ((b.drop 2).take 7) (b.getD 1 0).toNat
    have h3 : beVal (b.getD 1 0 :: (b.drop 2).take 7) = ((b.drop 2).take 7).foldl (fun n c => n * 256 + c.toNat) (b.getD 1 0).toNat := by simp [beVal]
    rw [e]
    rw [h3] at h1 ⊢
    rw [hl] at h1 h2
    have e7 : (256 : Nat) ^ 7 = 72057594037927936 := by decide
    rw [e7] at h1 h2
    have hg : gb b 1 = (b.getD 1 0).toNat := rfl
    rw [hg]
    constructor
    · intro h; exact ⟨rfl, by omega⟩
    · rintro ⟨_, h⟩; omega
  · have := be_7 b k (by omega)
    constructor
    · intro h; omega
    · rintro ⟨h, _⟩; omega
end Go.Proofs.YtjcchjgkkplamaaGreatDoor
