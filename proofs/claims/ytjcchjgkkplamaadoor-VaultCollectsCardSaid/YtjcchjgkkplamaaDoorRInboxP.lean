/- Layer 20, the document's own inbox against the program's: rows and keys. Plain mathematics. -/
import Derived.Test.YtjcchjgkkplamaaDoorRInbox
set_option linter.unusedVariables false
namespace Go.Proofs.YtjcchjgkkplamaaDoor
open Go.SW
/-- The keys of an inbox lie within it, each once. -/
structure Keys (rs : List (Int × Value × List UInt8)) (many : Nat) : Prop where
  within : ∀ x ∈ rs.map (·.1), 0 ≤ x ∧ x < (many : Int)
  once : (rs.map (·.1)).Nodup
theorem keys_nil (many : Nat) : Keys [] many := ⟨by simp, by simp⟩
theorem has_mem (rs : List (Int × Value × List UInt8)) (k : Int) : has rs k = true ↔ k ∈ rs.map (·.1) := by
  unfold has
  rw [List.find?_isSome]
  constructor
  · rintro ⟨r, hr, e⟩
    exact List.mem_map.2 ⟨r, hr, by simpa using e⟩
  · intro h
    obtain ⟨r, hr, rfl⟩ := List.mem_map.1 h
    exact ⟨r, hr, by simp⟩
theorem len_ge : ∀ (m : Nat) (K : List Int), (∀ k : Nat, k < m → (k : Int) ∈ K) → m ≤ K.length
  | 0, _, _ => Nat.zero_le _
  | m + 1, K, h => by
    have hm := h m (by omega)
    have h1 := len_ge m (K.erase (m : Int)) (fun k hk => (List.mem_erase_of_ne (by omega)).2 (h k (by omega)))
    rw [List.length_erase_of_mem hm] at h1
    have : 0 < K.length := List.length_pos_of_mem hm
    omega
theorem len_le : ∀ (m : Nat) (K : List Int), K.Nodup → (∀ x ∈ K, 0 ≤ x ∧ x < (m : Int)) → K.length ≤ m
  | 0, K, _, h => by
    cases K with
    | nil => simp
    | cons x K => have := h x List.mem_cons_self; omega
  | m + 1, K, hn, h => by
    have h1 := len_le m (K.erase (m : Int)) (hn.erase _) (fun x hx => by
      have hx2 := (hn.mem_erase_iff).1 hx
      have := h x hx2.2
      omega)
    have h2 : K.length ≤ (K.erase (m : Int)).length + 1 := by
      by_cases hm : (m : Int) ∈ K
      · rw [List.length_erase_of_mem hm]; omega
      · rw [List.erase_of_not_mem hm]; omega
    omega
theorem all_has {rs : List (Int × Value × List UInt8)} {many : Nat} (h : ∀ k : Nat, k < many → has rs (k : Int) = true) : ¬ rs.length < many := by
  have := len_ge many (rs.map (·.1)) (fun k hk => (has_mem rs k).1 (h k hk))
  rw [List.length_map] at this
  omega
theorem not_has {rs : List (Int × Value × List UInt8)} {many : Nat} (hK : Keys rs many) {k : Nat} (hk : k < many) (h : has rs (k : Int) = false) : rs.length < many := by
  have hn : (k : Int) ∉ rs.map (·.1) := fun hm => by rw [(has_mem rs k).2 hm] at h; cases h
  have := len_le many ((k : Int) :: rs.map (·.1)) (List.nodup_cons.2 ⟨hn, hK.once⟩) (fun x hx => by
    rcases List.mem_cons.1 hx with rfl | hx
    · omega
    · exact hK.within x hx)
  simp only [List.length_cons, List.length_map] at this
  omega
theorem keys_with {rs : List (Int × Value × List UInt8)} {many : Nat} (hK : Keys rs many) {p : Prt} (h0 : 0 ≤ p.n) (h1 : p.n < (many : Int)) (v : Value) : Keys (withP rs p v) many := by
  by_cases h : has rs p.n = true
  · rw [withP_old v h]; exact hK
  · have hf : has rs p.n = false := by simpa using h
    rw [withP_new v hf]
    have hn : p.n ∉ rs.map (·.1) := fun hm => h ((has_mem rs p.n).2 hm)
    refine ⟨fun x hx => ?_, ?_⟩
    · rw [List.map_append] at hx
      rcases List.mem_append.1 hx with hx | hx
      · exact hK.within x hx
      · simp only [List.map_cons, List.map_nil, List.mem_singleton] at hx
        subst hx; exact ⟨h0, h1⟩
    · rw [List.map_append]
      refine List.nodup_append.2 ⟨hK.once, by simp, fun a ha b hb e => ?_⟩
      simp only [List.map_cons, List.map_nil, List.mem_singleton] at hb
      subst hb; subst e
      exact hn ha
def Ibx.Keyed (S : Ibx) : Prop := Keys S.rs S.many
theorem keyed_put {S : Ibx} (hK : S.Keyed) (p : Prt) (v : Value) : (putI S p v).1.Keyed := by
  by_cases hm : mayP p = true
  · have hq := mayP_true hm
    have hmm : ((p.many.toNat : Nat) : Int) = p.many := Int.toNat_of_nonneg (by omega)
    cases hb : baseI S p with
    | none => rw [putI_ref v hm hb]; exact hK
    | some rs =>
      have hr : Keys rs p.many.toNat := by
        unfold baseI at hb
        split at hb
        · cases hb; exact keys_nil _
        split at hb
        · cases hb; exact keys_nil _
        split at hb
        · rename_i h9
          cases hb
          have e : p.many.toNat = S.many := by have := h9.2; omega
          rw [e]; exact hK
        · cases hb
      have hr2 := keys_with hr hq.2.2.1 (by rw [hmm]; exact hq.2.2.2.1) v
      by_cases hl : (withP rs p v).length < p.many.toNat
      · rw [putI_few v hm hb hl]; exact hr2
      · rw [putI_end v hm hb hl]; exact keys_nil _
  · rw [putI_no v (by simpa using hm)]; exact hK
/-! ### Rows -/
theorem has_with (rs : List (Int × Value × List UInt8)) (p : Prt) (v : Value) (j : Int) : has (withP rs p v) j = (has rs j || p.n == j) := by
  by_cases h : has rs p.n = true
  · rw [withP_old v h]
    by_cases hj : p.n = j
    · subst hj; rw [h]; rfl
    · rw [show (p.n == j) = false from by simpa using hj, Bool.or_false]
  · rw [withP_new v (by simpa using h), has, has, List.find?_append]
    cases rs.find? (fun r => r.1 == j) with
    | some r => rfl
    | none =>
      rw [List.find?_cons]
      cases h2 : (p.n == j) <;> simp [h2]
theorem rowOf_with (rs : List (Int × Value × List UInt8)) (p : Prt) (v : Value) (j : Int) : rowOf (withP rs p v) j = if p.n = j then (if has rs p.n then rowOf rs p.n else p.bytes) else rowOf rs j := by
  by_cases h : has rs p.n = true
  · rw [withP_old v h]
    by_cases hj : p.n = j
    · subst hj; rw [if_pos rfl, if_pos h]
    · rw [if_neg hj]
  · have hf : has rs p.n = false := by simpa using h
    rw [withP_new v hf]
    by_cases hj : p.n = j
    · subst hj
      rw [if_pos rfl, if_neg h]
      unfold rowOf
      unfold has at hf
      rw [List.find?_append]
      cases hq : rs.find? (fun r => r.1 == p.n) with
      | some r => rw [hq] at hf; cases hf
      | none => simp
    · rw [if_neg hj]
      unfold rowOf
      rw [List.find?_append]
      cases hq : rs.find? (fun r => r.1 == j) with
      | some r => rfl
      | none => rw [List.find?_cons, show (p.n == j) = false from by simpa using hj]; rfl
theorem rowsL_new (u : Option (Int × Int)) (m : Nat) : List.replicate m (Value.string (bs [])) = rowsL ⟨u, m, []⟩ := by
  simp [rowsL, rowOf, List.map_const']
theorem thereL_new (u : Option (Int × Int)) (m : Nat) : List.replicate m (Value.bool false) = thereL ⟨u, m, []⟩ := by
  simp [thereL, has, List.map_const']
theorem rowsL_set {u : Option (Int × Int)} {m : Nat} {rs : List (Int × Value × List UInt8)} {p : Prt} {k : Nat} (hk : p.n = (k : Int)) (v : Value) : (rowsL ⟨u, m, rs⟩).set (k * 1) (.string (bs (rowOf (withP rs p v) p.n))) = rowsL ⟨u, m, withP rs p v⟩ := by
  apply List.ext_getElem?
  intro j
  rw [List.getElem?_set, Nat.mul_one]
  by_cases hj : j < m
  · by_cases hkj : k = j
    · subst hkj
      rw [if_pos rfl, if_pos (by simp [rowsL, hj])]
      simp [rowsL, hj, hk]
    · rw [if_neg hkj]
      simp only [rowsL, List.getElem?_map, List.getElem?_range hj, Option.map_some]
      rw [rowOf_with, if_neg (by omega)]
  · have h1 : (rowsL ⟨u, m, rs⟩)[j]? = none := by simp [rowsL]; omega
    have h2 : (rowsL ⟨u, m, withP rs p v⟩)[j]? = none := by simp [rowsL]; omega
    rw [h1, h2]
    split
    · rw [if_neg (by simp [rowsL]; omega)]
    · rfl
theorem thereL_set {u : Option (Int × Int)} {m : Nat} {rs : List (Int × Value × List UInt8)} {p : Prt} {k : Nat} (hk : p.n = (k : Int)) (v : Value) : (thereL ⟨u, m, rs⟩).set (k * 1) (.bool true) = thereL ⟨u, m, withP rs p v⟩ := by
  apply List.ext_getElem?
  intro j
  rw [List.getElem?_set, Nat.mul_one]
  by_cases hj : j < m
  · by_cases hkj : k = j
    · subst hkj
      rw [if_pos rfl, if_pos (by simp [thereL, hj])]
      simp [thereL, hj, has_with, hk]
    · rw [if_neg hkj]
      simp only [thereL, List.getElem?_map, List.getElem?_range hj, Option.map_some]
      rw [has_with, show (p.n == ((j : Nat) : Int)) = false from by rw [beq_eq_false_iff_ne]; omega, Bool.or_false]
  · have h1 : (thereL ⟨u, m, rs⟩)[j]? = none := by simp [thereL]; omega
    have h2 : (thereL ⟨u, m, withP rs p v⟩)[j]? = none := by simp [thereL]; omega
    rw [h1, h2]
    split
    · rw [if_neg (by simp [thereL]; omega)]
    · rfl
/-! ### What a part comes to -/
theorem base_old {tn ix : Int} {mn : Nat} {rs : List (Int × Value × List UInt8)} {p : Prt} (h : (p.term < tn ∨ p.term = tn ∧ p.idx < ix) ∨ (p.term = tn ∧ p.idx = ix ∧ (mn : Int) ≠ p.many)) : baseI ⟨some (tn, ix), mn, rs⟩ p = none := by
  unfold baseI
  simp only
  rw [if_neg ?_, if_neg ?_]
  · rintro ⟨h1, h2⟩
    simp only [Prod.mk.injEq] at h1
    rcases h with h | h
    · omega
    · exact h.2.2 h2
  · intro hh
    unfold olderW at hh
    rw [Bool.or_eq_true, Bool.and_eq_true, beq_iff_eq] at hh
    rcases hh with hh | ⟨hh, hh'⟩
    · have := of_decide_eq_true hh; simp only at this; omega
    · have := of_decide_eq_true hh'; simp only at this hh; omega
theorem base_new {tn ix : Int} {mn : Nat} {rs : List (Int × Value × List UInt8)} {p : Prt} (h : tn < p.term ∨ tn = p.term ∧ ix < p.idx) : baseI ⟨some (tn, ix), mn, rs⟩ p = some [] := by
  unfold baseI
  simp only
  rw [if_pos]
  unfold olderW
  rw [Bool.or_eq_true, Bool.and_eq_true, beq_iff_eq]
  rcases h with h | ⟨h, h'⟩
  · exact .inl (decide_eq_true h)
  · exact .inr ⟨h, decide_eq_true h'⟩
theorem base_same {tn ix : Int} {mn : Nat} {rs : List (Int × Value × List UInt8)} {p : Prt} (h1 : p.term = tn) (h2 : p.idx = ix) (h3 : (mn : Int) = p.many) : baseI ⟨some (tn, ix), mn, rs⟩ p = some rs := by
  subst h1; subst h2
  unfold baseI
  simp only
  rw [if_neg (by simp [olderW]), if_pos (by simp [h3])]
end Go.Proofs.YtjcchjgkkplamaaDoor
