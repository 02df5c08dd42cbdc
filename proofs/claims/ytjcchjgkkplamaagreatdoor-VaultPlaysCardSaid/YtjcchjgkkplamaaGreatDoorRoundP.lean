/- Layers 1 and 20: what was laid is read again: numbers, rows, frames, snapshots. Plain mathematics. -/
import Derived.Test.YtjcchjgkkplamaaGreatDoorVaultP
import Derived.Lib.ItoaNum
set_option linter.unusedVariables false
namespace Go.Proofs.YtjcchjgkkplamaaGreatDoor
open Go.SW
theorem bitLen_bd (n : Nat) (h : n < 9223372036854775808) : n < 2 ^ Lib.bitLen n ∧ Lib.bitLen n ≤ 63 ∧ (n ≠ 0 → 1 ≤ Lib.bitLen n ∧ 2 ^ (Lib.bitLen n - 1) ≤ n) := by
  by_cases h0 : n = 0
  · subst h0
    exact ⟨by decide, by decide, fun h => absurd rfl h⟩
  · have hb := Lib.bitLenAux_bounds 64 n (by omega) h0
    refine ⟨hb.2.2, ?_, fun _ => ⟨hb.1, hb.2.1⟩⟩
    show Lib.bitLenAux 64 n ≤ 63
    refine Classical.byContradiction fun hc => ?_
    have h1 : 2 ^ 63 ≤ 2 ^ (Lib.bitLenAux 64 n - 1) := Nat.pow_le_pow_right (by omega) (by omega)
    have h2 := hb.2.1
    have h3 : (2 : Nat) ^ 63 = 9223372036854775808 := by decide
    omega
theorem numLen_bd (n : Nat) (h : n < 9223372036854775808) : n < 256 ^ numLen n ∧ numLen n ≤ 8 ∧ (n ≠ 0 → 1 ≤ numLen n ∧ 256 ^ (numLen n - 1) ≤ n) := by
  obtain ⟨h1, h2, h3⟩ := bitLen_bd n h
  have e : ∀ k, 256 ^ k = 2 ^ (8 * k) := fun k => by rw [Nat.pow_mul]
  refine ⟨?_, by unfold numLen; omega, fun h0 => ⟨by have := (h3 h0).1; unfold numLen; omega, ?_⟩⟩
  · rw [e]
    exact Nat.lt_of_lt_of_le h1 (Nat.pow_le_pow_right (by omega) (by unfold numLen; omega))
  · rw [e]
    exact Nat.le_trans (Nat.pow_le_pow_right (by omega) (by have := (h3 h0).1; unfold numLen; omega)) (h3 h0).2
theorem beVal_dig (n k : Nat) : beVal (dig n k) = n % 256 ^ k := by
  induction k generalizing n with
  | zero => simp [dig, beVal, Nat.mod_one]
  | succ k ih =>
    rw [dig, beVal_snoc, ih, Nat.pow_succ, Nat.mul_comm (256 ^ k), Nat.mod_mul]
    have : (UInt8.ofNat n).toNat = n % 256 := by simp
    rw [this]; omega
theorem gb_zero_cons (c : UInt8) (l : List UInt8) : gb (c :: l) 0 = c.toNat := rfl
theorem gb_succ (c : UInt8) (l : List UInt8) (j : Nat) : gb (c :: l) (j + 1) = gb l j := rfl
theorem takeNum_numB (n : Nat) (h : n < 9223372036854775808) (r : List UInt8) : takeNum (numB n ++ r) = (n, (numB n).length, 0) := by
  obtain ⟨h1, h2, h3⟩ := numLen_bd n h
  have g0 : gb (numB n ++ r) 0 = numLen n := by
    show (UInt8.ofNat (numLen n)).toNat = numLen n
    simp; omega
  have hl : (numB n ++ r).length = numLen n + 1 + r.length := by rw [List.length_append, numB_length]
  have g1 : 0 < numLen n → gb (numB n ++ r) 1 = n / 256 ^ (numLen n - 1) % 256 := by
    intro hk
    show gb (UInt8.ofNat (numLen n) :: dig n (numLen n) ++ r) 1 = _
    rw [List.cons_append, gb_succ]
    have hd := dig_get (numLen n) n 0 (by rw [dig_length]; exact hk)
    unfold gb
    rw [List.getD_eq_getElem?_getD, List.getElem?_append_left (by rw [dig_length]; exact hk), List.getElem?_eq_getElem (by rw [dig_length]; exact hk), Option.getD_some, hd]
    simp
  unfold takeNum
  rw [if_neg (by omega), g0, if_neg (by omega), if_neg (by omega)]
  rw [if_neg ?_, if_neg ?_]
  · have hdr : (numB n ++ r).drop 1 = dig n (numLen n) ++ r := rfl
    rw [hdr, List.take_left' (dig_length _ _), beVal_dig, Nat.mod_eq_of_lt h1, numB_length, Nat.add_comm]
  · rintro ⟨k0, k1⟩
    rw [g1 k0] at k1
    have hn0 : n ≠ 0 := by
      intro e; subst e
      exact absurd k0 (by decide)
    have hge := (h3 hn0).2
    have hlt : n / 256 ^ (numLen n - 1) < 256 := by
      rw [Nat.div_lt_iff_lt_mul (Nat.pow_pos (by omega)), ← Nat.pow_succ']
      rw [show (numLen n - 1).succ = numLen n by omega]
      exact h1
    rw [Nat.mod_eq_of_lt hlt] at k1
    have := Nat.div_pos hge (Nat.pow_pos (by omega) : 0 < 256 ^ (numLen n - 1))
    omega
  · rintro ⟨k8, k1⟩
    rw [g1 (by omega), k8] at k1
    have e : (256 : Nat) ^ (8 - 1) = 72057594037927936 := by decide
    rw [e] at k1
    omega
theorem takeBlob_blobB (c : List UInt8) (h : ¬ 65536 < c.length) (r : List UInt8) : takeBlob (blobB c ++ r) = (c, (blobB c).length, 0) := by
  have e : blobB c = numB c.length ++ c := by unfold blobB; rw [if_neg h]
  have hn : takeNum (blobB c ++ r) = (c.length, (numB c.length).length, 0) := by
    rw [e, List.append_assoc]; exact takeNum_numB _ (by omega) _
  unfold takeBlob
  rw [hn]
  rw [if_neg (by simp), if_neg h, if_neg (by rw [e]; simp only [List.length_append]; omega)]
  rw [e, List.append_assoc, List.drop_left, List.take_left, List.length_append]
theorem openF_frameB (p : List UInt8) (h : p.length ≤ 1048576) : openF (frameB p) = (p, p.length + 8, 0) := by
  have hg : get4 (frameB p) = p.length := by
    unfold frameB; rw [List.append_assoc]; exact four_get4 _ (by omega) _
  have hl := frameB_length p
  have ht : (frameB p).take (p.length + 4) = four p.length ++ p := by
    unfold frameB
    exact List.take_left' (by rw [List.length_append, four_length]; omega)
  have hd : (frameB p).drop (p.length + 4) = four (crc (four p.length ++ p)) := by
    unfold frameB
    exact List.drop_left' (by rw [List.length_append, four_length]; omega)
  have hd4 : ((frameB p).drop 4).take p.length = p := by
    unfold frameB
    rw [List.append_assoc, List.drop_left' (four_length _), List.take_left]
  unfold openF
  rw [if_neg (by omega), hg, if_neg (by omega), if_neg (by omega), ht, hd, hd4]
  have hc : get4 (four (crc (four p.length ++ p))) = crc (four p.length ++ p) := by
    have := four_get4 (crc (four p.length ++ p)) (crc_lt _) []
    rwa [List.append_nil] at this
  rw [hc, if_neg (fun h => h rfl)]
/-- What was laid is read again. -/
theorem readV_bytesV {i t : Int} {cf dt : List UInt8} (hi : i ≤ 9223372036854775807) (ht : t ≤ 9223372036854775807) (h : (bytesV i t cf dt).2 = 0) : readV (bytesV i t cf dt).1 = (⟨i, t, cf, dt⟩, 0) := by
  have hi0 : ¬ i < 0 := by intro hh; unfold bytesV at h; rw [if_pos hh] at h; exact absurd h (by decide)
  have ht0 : ¬ t < 0 := by intro hh; unfold bytesV at h; rw [if_neg hi0, if_pos hh] at h; exact absurd h (by decide)
  have hc0 : ¬ 65536 < cf.length := by intro hh; unfold bytesV at h; rw [if_neg hi0, if_neg ht0, if_pos hh] at h; exact absurd h (by decide)
  have hs0 : ¬ 1048576 < (snapB i t cf dt).length := by intro hh; unfold bytesV at h; rw [if_neg hi0, if_neg ht0, if_neg hc0, if_pos hh] at h; exact absurd h (by decide)
  have e : bytesV i t cf dt = (frameB (snapB i t cf dt), 0) := by unfold bytesV; rw [if_neg hi0, if_neg ht0, if_neg hc0, if_neg hs0]
  rw [e]
  unfold readV
  rw [openF_frameB _ (by omega)]
  rw [if_neg (by simp), if_neg (by simp [frameB_length])]
  have e1 : snapB i t cf dt = numB i.toNat ++ (numB t.toNat ++ (blobB cf ++ dt)) := by simp [snapB]
  have t1 : takeNum (snapB i t cf dt) = (i.toNat, (numB i.toNat).length, 0) := by rw [e1]; exact takeNum_numB _ (by omega) _
  have d1 : (snapB i t cf dt).drop (numB i.toNat).length = numB t.toNat ++ (blobB cf ++ dt) := by rw [e1, List.drop_left]
  have t2 : takeNum (numB t.toNat ++ (blobB cf ++ dt)) = (t.toNat, (numB t.toNat).length, 0) := takeNum_numB _ (by omega) _
  have d2 : (snapB i t cf dt).drop ((numB i.toNat).length + (numB t.toNat).length) = blobB cf ++ dt := by rw [← List.drop_drop, d1, List.drop_left]
  have t3 := takeBlob_blobB cf hc0 dt
  have d3 : (snapB i t cf dt).drop ((numB i.toNat).length + (numB t.toNat).length + (blobB cf).length) = dt := by rw [← List.drop_drop, d2, List.drop_left]
  unfold readP
  simp only [t1, d1, t2, d2, t3, d3]
  rw [if_pos ⟨trivial, trivial, trivial⟩]
  simp only [Int.toNat_of_nonneg (Int.not_lt.1 hi0), Int.toNat_of_nonneg (Int.not_lt.1 ht0)]
end Go.Proofs.YtjcchjgkkplamaaGreatDoor
