/- Layer 20 (vault): snapshots in bytes, their parts. Plain mathematics. -/
import Derived.Test.YtjcchjgkkplamaaGreatDoorWireP
import Derived.Test.YtjcchjgkkplamaaGreatDoorChunk
set_option linter.unusedVariables false
namespace Go.Proofs.YtjcchjgkkplamaaGreatDoor
open Go.SW
/-- A snapshot's bytes, and the error. -/
def snapB (i t : Int) (cf dt : List UInt8) : List UInt8 := numB i.toNat ++ numB t.toNat ++ blobB cf ++ dt
def bytesV (i t : Int) (cf dt : List UInt8) : List UInt8 × Nat :=
  if i < 0 then ([], 1) else if t < 0 then ([], 1) else if 65536 < cf.length then ([], 1) else
  if 1048576 < (snapB i t cf dt).length then ([], 2) else (frameB (snapB i t cf dt), 0)
/-- The way back: index, term, conf, data, the error. -/
structure Snp where
  idx : Int
  term : Int
  conf : List UInt8
  data : List UInt8
def Snp.none : Snp := ⟨0, 0, [], []⟩
def readP (p : List UInt8) : Snp × Nat :=
  if (takeNum p).2.2 = 0 ∧ (takeNum (p.drop (takeNum p).2.1)).2.2 = 0 ∧ (takeBlob (p.drop ((takeNum p).2.1 + (takeNum (p.drop (takeNum p).2.1)).2.1))).2.2 = 0 then
    (⟨(takeNum p).1, (takeNum (p.drop (takeNum p).2.1)).1, (takeBlob (p.drop ((takeNum p).2.1 + (takeNum (p.drop (takeNum p).2.1)).2.1))).1, p.drop ((takeNum p).2.1 + (takeNum (p.drop (takeNum p).2.1)).2.1 + (takeBlob (p.drop ((takeNum p).2.1 + (takeNum (p.drop (takeNum p).2.1)).2.1))).2.1)⟩, 0)
  else (Snp.none, 91)
def readV (b : List UInt8) : Snp × Nat :=
  if (openF b).2.2 ≠ 0 then (Snp.none, 91) else if (openF b).2.1 ≠ b.length then (Snp.none, 91) else readP (openF b).1
/-- How many of them are errors. -/
def cnz (es : List Nat) : Nat := (es.filter (· != 0)).length
theorem cnz_le (es : List Nat) : cnz es ≤ es.length := List.length_filter_le _ _
theorem cnz_step (es : List Nat) (j : Nat) (h : j < es.length) : cnz (es.take (j + 1)) = cnz (es.take j) + (if es.getD j 0 = 0 then 0 else 1) := by
  unfold cnz
  rw [List.take_succ_eq_append_getElem h, List.filter_append, List.length_append]
  simp only [List.getD_eq_getElem?_getD, List.getElem?_eq_getElem h, Option.getD_some]
  by_cases h0 : es[j] = 0
  · simp [h0]
  · simp [h0]
theorem cnz_take_le (es : List Nat) (j : Nat) : cnz (es.take j) ≤ j := Nat.le_trans (cnz_le _) (List.length_take_le _ _)
theorem snapB_length_le (i t : Int) (cf dt : List UInt8) : (snapB i t cf dt).length ≤ 65563 + dt.length := by
  have h1 := numB_le i.toNat
  have h2 := numB_le t.toNat
  have h3 := numB_le cf.length
  simp only [snapB, List.length_append, blobB]
  split <;> (try simp only [List.length_append, List.length_nil]) <;> omega
theorem cnz3 (a b c : Nat) : (cnz [a, b, c] == 0) = true ↔ a = 0 ∧ b = 0 ∧ c = 0 := by
  unfold cnz
  by_cases ha : a = 0 <;> by_cases hb : b = 0 <;> by_cases hc : c = 0 <;> simp [ha, hb, hc]
theorem takeBlob_used (b : List UInt8) : (takeBlob b).2.1 ≤ b.length := by
  have h := takeNum_used b
  unfold takeBlob
  split
  · simp
  split
  · simp
  split
  · simp
  · simp only; omega
theorem bytesV_end {i t : Int} {cf dt : List UInt8} (hi : ¬ i < 0) (ht : ¬ t < 0) (hc : ¬ 65536 < cf.length) : bytesV i t cf dt = (frameO (snapB i t cf dt), if 1048576 < (snapB i t cf dt).length then 2 else 0) := by
  unfold bytesV frameO
  rw [if_neg hi, if_neg ht, if_neg hc]
  split <;> rfl
theorem openF_length (b : List UInt8) : (openF b).1.length ≤ b.length := by
  unfold openF
  split
  · simp
  split
  · simp
  split
  · simp
  split
  · simp
  · simp only [List.length_take, List.length_drop]; omega
/-! ### Parts -/
def splitE (i t : Int) (cf dt : List UInt8) : Nat := if (bytesV i t cf dt).2 ≠ 0 then (bytesV i t cf dt).2 else if 1024 < nch (bytesV i t cf dt).1.length then 2 else 0
def splitB (i t : Int) (cf dt : List UInt8) : List UInt8 := if splitE i t cf dt ≠ 0 then [] else (bytesV i t cf dt).1
/-- The cells of parts whose bytes are the slices vs. -/
def partsC (i t : Int) (many : Nat) (vs : List Value) : List Value := (vs.zipIdx).flatMap fun x => [.int .i64 i, .int .i64 t, .int .i64 ((x.2 : Nat) : Int), .int .i64 ((many : Nat) : Int), x.1]
theorem partsC_snoc (i t : Int) (many : Nat) (vs : List Value) (v : Value) : partsC i t many (vs ++ [v]) = partsC i t many vs ++ [.int .i64 i, .int .i64 t, .int .i64 ((vs.length : Nat) : Int), .int .i64 ((many : Nat) : Int), v] := by
  simp [partsC, List.zipIdx_append]
theorem partsC_at (i t : Int) (many : Nat) : ∀ (vs : List Value) (n : Nat), ((vs.zipIdx n).flatMap fun x => [Value.int .i64 i, .int .i64 t, .int .i64 ((x.2 : Nat) : Int), .int .i64 ((many : Nat) : Int), x.1]).length = vs.length * 5 ∧
    ∀ j q, j < vs.length → q < 5 → ((vs.zipIdx n).flatMap fun x => [Value.int .i64 i, .int .i64 t, .int .i64 ((x.2 : Nat) : Int), .int .i64 ((many : Nat) : Int), x.1])[j * 5 + q]? = [Value.int .i64 i, .int .i64 t, .int .i64 ((n + j : Nat) : Int), .int .i64 ((many : Nat) : Int), vs.getD j undef][q]? := by
  intro vs
  induction vs with
  | nil => intro n; exact ⟨by simp, fun j q hj => by simp at hj⟩
  | cons v vs ih =>
    intro n
    obtain ⟨h1, h2⟩ := ih (n + 1)
    refine ⟨?_, fun j q hj hq => ?_⟩
    · rw [List.zipIdx_cons, List.flatMap_cons, List.length_append, h1]
      simp; omega
    · rw [List.zipIdx_cons, List.flatMap_cons]
      cases j with
      | zero =>
        rw [List.getElem?_append_left (by simp; omega)]
        simp
      | succ j =>
        rw [List.getElem?_append_right (by simp; omega)]
        have := h2 j q (by simpa using hj) hq
        simp only [List.length_cons, List.length_nil]
        rw [show (j + 1) * 5 + q - (0 + 1 + 1 + 1 + 1 + 1) = j * 5 + q by omega, this]
        simp [Nat.add_assoc, Nat.add_comm 1 j]
theorem partsC_length (i t : Int) (many : Nat) (vs : List Value) : (partsC i t many vs).length = vs.length * 5 := (partsC_at i t many vs 0).1
theorem partsC_get (i t : Int) (many : Nat) (vs : List Value) (j q : Nat) (hj : j < vs.length) (hq : q < 5) :
    (partsC i t many vs)[j * 5 + q]? = [Value.int .i64 i, .int .i64 t, .int .i64 ((j : Nat) : Int), .int .i64 ((many : Nat) : Int), vs.getD j undef][q]? := by
  have := (partsC_at i t many vs 0).2 j q hj hq
  rwa [Nat.zero_add] at this
/-- The parts' rows of bytes. -/
def partOwn (e : TypeId) (b : List UInt8) (vs : List Value) : List Own := vs.zipIdx.map fun x => .row x.1 e 1 (chunkB b x.2).length (bv (chunkB b x.2))
theorem partOwn_snoc (e : TypeId) (b : List UInt8) (vs : List Value) (v : Value) : partOwn e b (vs ++ [v]) = partOwn e b vs ++ [.row v e 1 (chunkB b vs.length).length (bv (chunkB b vs.length))] := by
  simp [partOwn, List.zipIdx_append]
theorem partOwn_mem (e : TypeId) (b : List UInt8) (vs : List Value) (j : Nat) (h : j < vs.length) : Own.row (vs.getD j undef) e 1 (chunkB b j).length (bv (chunkB b j)) ∈ partOwn e b vs := by
  refine List.mem_map.2 ⟨(vs[j], j), ?_, by simp [List.getD_eq_getElem?_getD, h]⟩
  rw [List.mem_zipIdx_iff_getElem?]
  simp [h]
theorem frameO_length_le (p : List UInt8) : (frameO p).length ≤ 1048584 := by
  unfold frameO
  split
  · simp
  · rw [frameB_length]; omega
theorem bytesV_length_le (i t : Int) (cf dt : List UInt8) : (bytesV i t cf dt).1.length ≤ 1048584 := by
  unfold bytesV
  split
  · simp
  split
  · simp
  split
  · simp
  split
  · simp
  · simp only [frameB_length]; omega
theorem bytesV_err {i t : Int} {cf dt : List UInt8} (h : (bytesV i t cf dt).2 ≠ 0) : splitE i t cf dt = (bytesV i t cf dt).2 ∧ splitB i t cf dt = [] := by
  have e : splitE i t cf dt = (bytesV i t cf dt).2 := by unfold splitE; rw [if_pos h]
  exact ⟨e, by unfold splitB; rw [e, if_pos h]⟩
theorem split_long {i t : Int} {cf dt : List UInt8} (h : (bytesV i t cf dt).2 = 0) (hl : 1024 < nch (bytesV i t cf dt).1.length) : splitE i t cf dt = 2 ∧ splitB i t cf dt = [] := by
  have e : splitE i t cf dt = 2 := by unfold splitE; rw [if_neg (by omega), if_pos hl]
  exact ⟨e, by unfold splitB; rw [e]; rfl⟩
theorem split_ok {i t : Int} {cf dt : List UInt8} (h : (bytesV i t cf dt).2 = 0) (hl : ¬ 1024 < nch (bytesV i t cf dt).1.length) : splitE i t cf dt = 0 ∧ splitB i t cf dt = (bytesV i t cf dt).1 := by
  have e : splitE i t cf dt = 0 := by unfold splitE; rw [if_neg (by omega), if_neg hl]
  exact ⟨e, by unfold splitB; rw [e]; rfl⟩
end Go.Proofs.YtjcchjgkkplamaaGreatDoor
