/- Law 20: parts of a snapshot come in any order, parts of an older one between them: what the inbox holds all along. Plain mathematics. -/
import Derived.Test.YtjcchjgkkplamaaDoorPut
set_option linter.unusedVariables false
namespace Go.Proofs.YtjcchjgkkplamaaDoor
open Go.SW
/-- How many are still to come. -/
def todo (th : List Bool) : Nat := (th.filter fun b => !b).length
/-- Parts are collected: th tells which ones came; left: how many did not. -/
structure Col (i t : Int) (cf dt b : List UInt8) (th : List Bool) (left : Nat) (S : Ibx) : Prop where
  len : th.length = nch b.length
  todo : left = todo th
  now : (left = 0 ∧ S.new = some (t, i) ∧ S.many = 0) ∨
    (0 < left ∧ (∀ k : Nat, th.getD k false = false) ∧ (S.new = none ∨ ∃ u, S.new = some u ∧ olderW u (t, i) = true)) ∨
    (0 < left ∧ S.new = some (t, i) ∧ S.many = nch b.length ∧ S.rs.length + left = nch b.length ∧ ∀ k : Nat, k < nch b.length → th.getD k false = has S.rs (k : Int) ∧ (has S.rs (k : Int) = true → rowOf S.rs (k : Int) = chunkB b k))
theorem todo_le (th : List Bool) : todo th ≤ th.length := List.length_filter_le _ _
theorem Col.le {i t : Int} {cf dt b : List UInt8} {th : List Bool} {left : Nat} {S : Ibx} (h : Col i t cf dt b th left S) : left ≤ nch b.length := by
  rw [h.todo, ← h.len]; exact todo_le _
theorem todo_zero : ∀ {th : List Bool}, todo th = 0 → ∀ k : Nat, k < th.length → th.getD k false = true
  | [], _, k, hk => by simp at hk
  | c :: th, h, k, hk => by
    cases c with
    | false => simp [todo] at h
    | true =>
      cases k with
      | zero => rfl
      | succ k => exact todo_zero (th := th) (by simpa [todo] using h) k (by simpa using hk)
theorem todo_pos : ∀ {th : List Bool} {k : Nat}, k < th.length → th.getD k false = false → 0 < todo th
  | [], k, hk, _ => by simp at hk
  | c :: th, 0, _, h => by
    have : c = false := h
    subst this
    simp [todo]
  | c :: th, k + 1, hk, h => by
    have := todo_pos (th := th) (k := k) (by simpa using hk) h
    cases c with
    | false => simp [todo]
    | true =>
      show 0 < todo (true :: th)
      have e : todo (true :: th) = todo th := by simp [todo]
      rw [e]; exact this
theorem todo_set : ∀ {th : List Bool} {k : Nat}, k < th.length → th.getD k false = false → todo (th.set k true) + 1 = todo th
  | [], k, hk, _ => by simp at hk
  | c :: th, 0, _, h => by
    have : c = false := h
    subst this
    simp [todo]
  | c :: th, k + 1, hk, h => by
    have := todo_set (th := th) (k := k) (by simpa using hk) h
    unfold todo at *
    cases c <;> simp <;> omega
theorem getD_set (th : List Bool) (k j : Nat) (hk : k < th.length) : (th.set k true).getD j false = (th.getD j false || decide (j = k)) := by
  rw [List.getD_eq_getElem?_getD, List.getElem?_set, List.getD_eq_getElem?_getD]
  by_cases h : k = j
  · subst h; simp [hk]
  · simp [h, Ne.symm h]
theorem todo_new (n : Nat) : todo (List.replicate n false) = n := by simp [todo]
theorem col_new {i t : Int} {cf dt b : List UInt8} (h : Whole i t cf dt b) : Col i t cf dt b (List.replicate (nch b.length) false) (nch b.length) ⟨none, 0, []⟩ :=
  ⟨by simp, (todo_new _).symm, .inr (.inl ⟨h.n1, fun k => by
    rw [List.getD_eq_getElem?_getD, List.getElem?_replicate]
    split <;> rfl, .inl rfl⟩)⟩
theorem has_snoc (rs : List (Int × Value × List UInt8)) (k : Int) (v : Value) (c : List UInt8) (j : Int) : has (rs ++ [(k, v, c)]) j = (has rs j || k == j) := by
  unfold has
  rw [List.find?_append]
  cases rs.find? (fun r => r.1 == j) with
  | some r => rfl
  | none =>
    rw [List.find?_cons]
    cases h : (k == j) <;> simp [h]
theorem rowOf_snoc_old {rs : List (Int × Value × List UInt8)} {k : Int} {v : Value} {c : List UInt8} {j : Int} (h : has rs j = true) : rowOf (rs ++ [(k, v, c)]) j = rowOf rs j := by
  unfold rowOf
  unfold has at h
  rw [List.find?_append]
  cases hq : rs.find? (fun r => r.1 == j) with
  | some r => rfl
  | none => rw [hq] at h; cases h
theorem rowOf_snoc_new {rs : List (Int × Value × List UInt8)} {k : Int} {v : Value} {c : List UInt8} (h : has rs k = false) : rowOf (rs ++ [(k, v, c)]) k = c := by
  unfold rowOf
  unfold has at h
  rw [List.find?_append]
  cases hq : rs.find? (fun r => r.1 == k) with
  | some r => rw [hq] at h; cases h
  | none => simp
/-- A part of the snapshot is put. -/
theorem col_put {i t : Int} {cf dt b : List UInt8} (h : Whole i t cf dt b) {th : List Bool} {left : Nat} {S : Ibx} (hc : Col i t cf dt b th left S) (k : Nat) (hk : k < nch b.length) {v : Value} {R : Ibx × Snp × Bool × Nat} (hR : R = putI S (partP i t b k) v) :
    (th.getD k false = true → Col i t cf dt b th left R.1 ∧ R.2.2.1 = false) ∧
    (th.getD k false = false → 0 < left ∧ Col i t cf dt b (th.set k true) (left - 1) R.1 ∧ R.2.2.1 = decide (left = 1) ∧ (left = 1 → R.2.1 = ⟨i, t, cf, dt⟩)) := by
  have hm := h.mayP k hk
  have hkl : k < th.length := by rw [hc.len]; exact hk
  have hn1 := h.n1
  -- what comes of a part that is new
  have step : ∀ rs : List (Int × Value × List UInt8), baseI S (partP i t b k) = some rs → has rs (k : Int) = false → rs.length + left = nch b.length → 0 < left → th.getD k false = false →
      (∀ j : Nat, j < nch b.length → th.getD j false = has rs (j : Int) ∧ (has rs (j : Int) = true → rowOf rs (j : Int) = chunkB b j)) →
      0 < left ∧ Col i t cf dt b (th.set k true) (left - 1) R.1 ∧ R.2.2.1 = decide (left = 1) ∧ (left = 1 → R.2.1 = ⟨i, t, cf, dt⟩) := by
    intro rs hb hh hl hpos hth hall
    have hw : withP rs (partP i t b k) v = rs ++ [((k : Int), v, chunkB b k)] := withP_new v hh
    have htodo : left - 1 = todo (th.set k true) := by have := todo_set hkl hth; have := hc.todo; omega
    have hall' : ∀ j : Nat, j < nch b.length → (th.set k true).getD j false = has (rs ++ [((k : Int), v, chunkB b k)]) (j : Int) ∧ (has (rs ++ [((k : Int), v, chunkB b k)]) (j : Int) = true → rowOf (rs ++ [((k : Int), v, chunkB b k)]) (j : Int) = chunkB b j) := by
      intro j hj
      refine ⟨?_, fun hhj => ?_⟩
      · rw [getD_set _ _ _ hkl, has_snoc, (hall j hj).1]
        congr 1
        rw [Bool.eq_iff_iff]
        simp only [decide_eq_true_eq, beq_iff_eq]
        omega
      · by_cases hjk : j = k
        · subst hjk
          exact rowOf_snoc_new hh
        · have hj2 : has rs (j : Int) = true := by
            rw [has_snoc] at hhj
            have : (((k : Nat) : Int) == ((j : Nat) : Int)) = false := by rw [beq_eq_false_iff_ne]; omega
            rw [this, Bool.or_false] at hhj
            exact hhj
          rw [rowOf_snoc_old hj2]
          exact (hall j hj).2 hj2
    by_cases h1 : left = 1
    · have hR2 : R = (⟨some (t, i), 0, []⟩, ⟨i, t, cf, dt⟩, true, 0) := by
        rw [hR, putI_end v hm hb (by rw [hw]; simp [partP]; omega), hw]
        have hj : joinI (rs ++ [((k : Int), v, chunkB b k)]) (partP i t b k).many.toNat = b := by
          have hz := todo_zero (th := th.set k true) (by omega)
          have := joinI_all (rs := rs ++ [((k : Int), v, chunkB b k)]) (b := b) (fun j hj => (hall' j hj).2 (by rw [← (hall' j hj).1]; exact hz j (by rw [List.length_set, hc.len]; exact hj)))
          simpa [partP] using this
        rw [hj, h.done k]
        rfl
      rw [hR2]
      exact ⟨hpos, ⟨by simp [hc.len], htodo, .inl ⟨by omega, rfl, rfl⟩⟩, by simp [h1], fun _ => rfl⟩
    · have hR2 : R = (⟨some (t, i), nch b.length, rs ++ [((k : Int), v, chunkB b k)]⟩, Snp.none, false, 0) := by
        rw [hR, putI_few v hm hb (by rw [hw]; simp [partP]; omega), hw]
        rfl
      rw [hR2]
      exact ⟨hpos, ⟨by simp [hc.len], htodo, .inr (.inr ⟨by omega, rfl, rfl, by simp; omega, hall'⟩)⟩, by simp [h1], fun h => absurd h h1⟩
  rcases hc.now with ⟨h0, hnew, hmany⟩ | ⟨hpos, hall, hnew⟩ | ⟨hpos, hnew, hmany, hlen, hall⟩
  · have ht : th.getD k false = true := todo_zero (by rw [← hc.todo]; exact h0) k hkl
    have hb : baseI S (partP i t b k) = none := by
      unfold baseI
      rw [hnew]
      simp only
      rw [if_neg (by simp [olderW, partP]), if_neg ?_]
      rintro ⟨_, h2⟩
      rw [hmany] at h2
      simp only [partP] at h2
      omega
    rw [putI_ref v hm hb] at hR
    subst hR
    exact ⟨fun _ => ⟨hc, rfl⟩, fun hf => by rw [ht] at hf; cases hf⟩
  · have hb : baseI S (partP i t b k) = some [] := by
      unfold baseI
      rcases hnew with hn | ⟨u, hn, ho⟩
      · rw [hn]
      · rw [hn]; simp only; rw [if_pos (by exact ho)]
    have hleft : left = nch b.length := by
      rw [hc.todo, ← hc.len]
      have : th = List.replicate th.length false := by
        apply List.ext_getElem
        · simp
        · intro q h1 h2
          have := hall q
          rw [List.getD_eq_getElem?_getD, List.getElem?_eq_getElem h1] at this
          simpa using this
      rw [this, todo_new]; simp
    refine ⟨fun hf => (by rw [hall k] at hf; cases hf), fun hf => step [] hb rfl (by simpa using hleft) hpos hf (fun j _ => ⟨hall j, fun h => by cases h⟩)⟩
  · refine ⟨fun hf => ?_, fun hf => ?_⟩
    · have hh : has S.rs (k : Int) = true := by rw [← (hall k hk).1]; exact hf
      have hb : baseI S (partP i t b k) = some S.rs := by
        unfold baseI
        rw [hnew]
        simp only
        rw [if_neg (by simp [olderW, partP]), if_pos ⟨rfl, by rw [hmany]; rfl⟩]
      have hw : withP S.rs (partP i t b k) v = S.rs := withP_old v hh
      have hR2 : R = (⟨some (t, i), nch b.length, S.rs⟩, Snp.none, false, 0) := by
        rw [hR, putI_few v hm hb (by rw [hw]; simp [partP]; omega), hw]
        rfl
      rw [hR2]
      exact ⟨⟨hc.len, hc.todo, .inr (.inr ⟨hpos, rfl, rfl, hlen, hall⟩)⟩, rfl⟩
    · have hb : baseI S (partP i t b k) = some S.rs := by
        unfold baseI
        rw [hnew]
        simp only
        rw [if_neg (by simp [olderW, partP]), if_pos ⟨rfl, by rw [hmany]; rfl⟩]
      exact step S.rs hb (by rw [← (hall k hk).1]; exact hf) hlen hpos hf hall
/-- A part of an older snapshot is put. -/
theorem col_older {i t : Int} {cf dt b : List UInt8} {th : List Bool} {left : Nat} {S : Ibx} (hc : Col i t cf dt b th left S) {i2 t2 : Int} {cf2 dt2 b2 : List UInt8} (h2 : Whole i2 t2 cf2 dt2 b2) (hold : t2 < t ∨ t2 = t ∧ i2 < i) (k : Nat) (hk : k < nch b2.length) {v : Value} {R : Ibx × Snp × Bool × Nat}
    (hR : R = putI S (partP i2 t2 b2 k) v) : Col i t cf dt b th left R.1 := by
  have hm := h2.mayP k hk
  rcases hc.now with ⟨h0, hnew, hmany⟩ | ⟨hpos, hall, hnew⟩ | ⟨hpos, hnew, hmany, hlen, hall⟩
  · rw [putI_ref v hm (older_not hnew hold k)] at hR
    subst hR
    exact hc
  · refine ⟨hc.len, hc.todo, .inr (.inl ⟨hpos, hall, ?_⟩)⟩
    have hu : R.1.new = S.new ∨ R.1.new = some (t2, i2) := by
      subst hR
      cases hb : baseI S (partP i2 t2 b2 k) with
      | none => rw [putI_ref v hm hb]; exact .inl rfl
      | some rs =>
        by_cases hl : (withP rs (partP i2 t2 b2 k) v).length < (partP i2 t2 b2 k).many.toNat
        · rw [putI_few v hm hb hl]; exact .inr rfl
        · rw [putI_end v hm hb hl]; exact .inr rfl
    rcases hu with hu | hu
    · rw [hu]; exact hnew
    · refine .inr ⟨_, hu, ?_⟩
      unfold olderW
      simp only [Bool.or_eq_true, Bool.and_eq_true, beq_iff_eq]
      rcases hold with h | ⟨h, h'⟩
      · exact .inl (decide_eq_true h)
      · exact .inr ⟨h, decide_eq_true h'⟩
  · rw [putI_ref v hm (older_not hnew hold k)] at hR
    subst hR
    exact hc
theorem cv_left {a : Nat} (h : 0 < a) : Value.bool (decide (a = 1) != (((a - 1 : Nat) : Int) == (0 : Int))) = .bool false := by
  by_cases h1 : a = 1
  · subst h1; rfl
  · have : (((a - 1 : Nat) : Int) == (0 : Int)) = false := by rw [beq_eq_false_iff_ne]; omega
    rw [this, show decide (a = 1) = false from by simpa using h1]; rfl
theorem bools_at (th : List Bool) (k : Nat) (h : k < th.length) : (th.map Value.bool)[k * 1 + 0]? = some (.bool (th.getD k false)) := by
  rw [Nat.mul_one, Nat.add_zero, List.getElem?_map, List.getElem?_eq_getElem h, List.getD_eq_getElem?_getD, List.getElem?_eq_getElem h]; rfl
theorem bools_set (th : List Bool) (k : Nat) : (th.map Value.bool).set (k * 1 + 0) (.bool true) = (th.set k true).map Value.bool := by
  rw [Nat.mul_one, Nat.add_zero, List.map_set]
theorem bools_new (n : Nat) : List.replicate n (Value.bool false) = (List.replicate n false).map Value.bool := by simp
/-- A row of whole numbers, as cells. -/
def iv (zs : List Int) : List Value := zs.map fun z => .int .i64 z
theorem iv_at (zs : List Int) (k : Nat) (h : k < zs.length) : (iv zs)[k * 1 + 0]? = some (.int .i64 (zs.getD k 0)) := by
  rw [Nat.mul_one, Nat.add_zero, iv, List.getElem?_map, List.getElem?_eq_getElem h, List.getD_eq_getElem?_getD, List.getElem?_eq_getElem h]; rfl
end Go.Proofs.YtjcchjgkkplamaaDoor
