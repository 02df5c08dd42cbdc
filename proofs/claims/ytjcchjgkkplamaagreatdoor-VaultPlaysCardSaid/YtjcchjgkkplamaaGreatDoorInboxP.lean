/- Layer 20 (vault): the inbox: its state, and what a part does to it. Plain mathematics. -/
import Derived.Test.YtjcchjgkkplamaaGreatDoorRoundP
import Derived.Test.YtjcchjgkkplamaaGreatDoorCalc
set_option linter.unusedVariables false
namespace Go.Proofs.YtjcchjgkkplamaaGreatDoor
open Go.SW
/-- A part. -/
structure Prt where
  idx : Int
  term : Int
  n : Int
  many : Int
  bytes : List UInt8
def mayP (p : Prt) : Bool :=
  if min (min p.idx p.term) p.n < 0 then false else if 1024 < p.many then false else if p.many ≤ p.n then false
  else if p.n < p.many - 1 then p.bytes.length == 512 else if 0 < p.bytes.length then decide (p.bytes.length ≤ 512) else false
/-- An inbox: of which snapshot (term, index) a part was put; how many parts it has; the parts that are there, with the slices in which they lie. -/
structure Ibx where
  new : Option (Int × Int)
  many : Nat
  rs : List (Int × Value × List UInt8)
def kv (rs : List (Int × Value × List UInt8)) : List (Int × Value) := rs.map fun r => (r.1, r.2.1)
def rowOf (rs : List (Int × Value × List UInt8)) (k : Int) : List UInt8 := ((rs.find? fun r => r.1 == k).map (·.2.2)).getD []
def has (rs : List (Int × Value × List UInt8)) (k : Int) : Bool := (rs.find? fun r => r.1 == k).isSome
def ibxOwn (e : TypeId) (rs : List (Int × Value × List UInt8)) : List Own := rs.map fun r => .row r.2.1 e 1 r.2.2.length (bv r.2.2)
/-- Is a older than b (term, index)? -/
def olderW (a b : Int × Int) : Bool := decide (a.1 < b.1) || (a.1 == b.1 && decide (a.2 < b.2))
/-- A part that may be one comes: what it comes to; none: it is refused. -/
def baseI (S : Ibx) (p : Prt) : Option (List (Int × Value × List UInt8)) :=
  match S.new with
  | none => some []
  | some w => if olderW w (p.term, p.idx) then some [] else if w = (p.term, p.idx) ∧ (S.many : Int) = p.many then some S.rs else none
def withP (rs : List (Int × Value × List UInt8)) (p : Prt) (v : Value) : List (Int × Value × List UInt8) := if has rs p.n then rs else rs ++ [(p.n, v, p.bytes)]
def joinI (rs : List (Int × Value × List UInt8)) (many : Nat) : List UInt8 := (List.range many).flatMap fun (k : Nat) => rowOf rs (k : Int)
/-- All parts are there: the snapshot. -/
def endI (p : Prt) (b : List UInt8) : Snp × Bool × Nat :=
  if (readV b).2 ≠ 0 then (Snp.none, false, 91) else if (readV b).1.term = p.term ∧ (readV b).1.idx = p.idx then ((readV b).1, true, 0) else (Snp.none, false, 91)
/-- What Put answers, and the inbox behind it; v: the slice in which the part's bytes are kept, if they are. -/
def putI (S : Ibx) (p : Prt) (v : Value) : Ibx × Snp × Bool × Nat :=
  if mayP p = false then (S, Snp.none, false, 1) else
  match baseI S p with
  | none => (S, Snp.none, false, 91)
  | some rs => if (withP rs p v).length < p.many.toNat then (⟨some (p.term, p.idx), p.many.toNat, withP rs p v⟩, Snp.none, false, 0)
    else (⟨some (p.term, p.idx), 0, []⟩, endI p (joinI (withP rs p v) p.many.toNat))
/-- What is kept of an inbox: it is closed, or not all parts are there; parts are short. -/
structure Ibx.Ok (S : Ibx) : Prop where
  many : S.many ≤ 1024
  few : S.many = 0 ∨ S.rs.length < S.many
  short : ∀ r ∈ S.rs, r.2.2.length ≤ 512
theorem mayP_true {p : Prt} (h : mayP p = true) : 0 ≤ p.idx ∧ 0 ≤ p.term ∧ 0 ≤ p.n ∧ p.n < p.many ∧ p.many ≤ 1024 ∧ p.bytes.length ≤ 512 := by
  unfold mayP at h
  split at h
  · cases h
  split at h
  · cases h
  split at h
  · cases h
  split at h
  · have : p.bytes.length = 512 := by simpa using h
    omega
  split at h
  · have : p.bytes.length ≤ 512 := by simpa using h
    omega
  · cases h
theorem kfind_kv (k : Int) : ∀ (rs : List (Int × Value × List UInt8)) (i : Nat), (kfind k (kv rs) i).map (·.2) = (rs.find? fun r => r.1 == k).map (·.2.1)
  | [], _ => rfl
  | r :: rs, i => by
    show (if r.1 = k then some (i, r.2.1) else kfind k (kv rs) (i + 1)).map (·.2) = _
    rw [List.find?_cons]
    by_cases h : r.1 = k
    · simp [h]
    · rw [if_neg h, kfind_kv k rs (i + 1), show (r.1 == k) = false from by simpa using h]
theorem kget_kv (rs : List (Int × Value × List UInt8)) (k : Int) : kget (kv rs) k = (rs.find? fun r => r.1 == k).map (·.2.1) := kfind_kv k rs 0
theorem kget_has (rs : List (Int × Value × List UInt8)) (k : Int) : (kget (kv rs) k).isSome = has rs k := by rw [kget_kv, has]; simp
theorem kget_none {rs : List (Int × Value × List UInt8)} {k : Int} (h : has rs k = false) : kget (kv rs) k = none := by
  have := kget_has rs k
  rw [h] at this
  cases hk : kget (kv rs) k with
  | none => rfl
  | some v => rw [hk] at this; cases this
theorem kfind_lt (k : Int) : ∀ (l : List (Int × Value)) (i q : Nat) (v : Value), kfind k l i = some (q, v) → ∃ j, q = i + j ∧ ∃ p, l[j]? = some p ∧ p.1 = k
  | [], _, _, _, h => by simp [kfind] at h
  | p :: l, i, q, v, h => by
    unfold kfind at h
    by_cases hp : p.1 = k
    · rw [if_pos hp] at h
      cases h
      exact ⟨0, rfl, p, rfl, hp⟩
    · rw [if_neg hp] at h
      obtain ⟨j, h1, p', h2, h3⟩ := kfind_lt k l (i + 1) q v h
      exact ⟨j + 1, by omega, p', by simpa using h2, h3⟩
theorem kfind_erase (k k' : Int) (hk : k ≠ k') : ∀ (l : List (Int × Value)) (j : Nat) (p : Int × Value), l[j]? = some p → p.1 = k → ∀ i, (kfind k' (l.eraseIdx j) i).map (·.2) = (kfind k' l i).map (·.2)
  | [], _, _, h, _, _ => by simp at h
  | a :: l, 0, p, h, hp, i => by
    simp only [List.getElem?_cons_zero, Option.some.injEq] at h
    subst h
    rw [List.eraseIdx_zero, List.tail_cons]
    conv => rhs; unfold kfind
    rw [if_neg (by rw [hp]; exact hk), kfind_add k' l i, kfind_add k' l (i + 1)]
    cases kfind k' l 0 <;> rfl
  | a :: l, j + 1, p, h, hp, i => by
    rw [List.eraseIdx_cons_succ]
    unfold kfind
    by_cases ha : a.1 = k'
    · simp [ha]
    · rw [if_neg ha, if_neg ha]
      exact kfind_erase k k' hk l j p (by simpa using h) hp (i + 1)
theorem kget_kdel (l : List (Int × Value)) (k k' : Int) (hk : k ≠ k') : kget (kdel l k) k' = kget l k' := by
  unfold kdel kget
  cases h : kfind k l 0 with
  | none => rfl
  | some q =>
    obtain ⟨j, v⟩ := q
    obtain ⟨j', h1, p, h2, h3⟩ := kfind_lt k l 0 j v h
    obtain rfl : j = j' := by omega
    exact kfind_erase k k' hk l j p h2 h3 0
/-- Some of the first keys are gone. -/
def delN (l : List (Int × Value)) : Nat → List (Int × Value)
  | 0 => l
  | k + 1 => kdel (delN l k) (k : Int)
theorem kget_delN (l : List (Int × Value)) (k : Nat) : ∀ j : Nat, j ≤ k → kget (delN l j) (k : Int) = kget l (k : Int)
  | 0, _ => rfl
  | j + 1, h => by
    rw [delN, kget_kdel _ _ _ (by omega), kget_delN l k j (by omega)]
theorem rows_rb {w0 w : World} {z : Zone} {F : List Nat} {os : List Own} (hH : Hp w0 w z F os) (q : Nat) {e : TypeId} {rs : List (Int × Value × List UInt8)} (hq : os[q]? = some (.grp (ibxOwn e rs))) (k : Int) :
    RB w.cell? ((kget (kv rs) k).getD (.slice none 0 0)) (rowOf rs k) := by
  rw [kget_kv, rowOf]
  cases hf : rs.find? (fun r => r.1 == k) with
  | none => exact RB.nil _
  | some r =>
    have hm := List.mem_of_find?_eq_some hf
    have ha : ∀ o ∈ ibxOwn e rs, o.at w := hH.own _ (List.mem_of_getElem? hq)
    have h1 : w.ownsRow 0 e 1 r.2.1 r.2.2.length (bv r.2.2) := ha _ (List.mem_map.2 ⟨r, hm, rfl⟩)
    exact Row.of_own h1
theorem rowOf_le {rs : List (Int × Value × List UInt8)} (h : ∀ r ∈ rs, r.2.2.length ≤ 512) (k : Int) : (rowOf rs k).length ≤ 512 := by
  unfold rowOf
  cases hf : rs.find? (fun r => r.1 == k) with
  | none => simp
  | some r => exact h r (List.mem_of_find?_eq_some hf)
theorem joinI_snoc (rs : List (Int × Value × List UInt8)) (k : Nat) : joinI rs (k + 1) = joinI rs k ++ rowOf rs (k : Int) := by
  simp [joinI, List.range_succ]
theorem joinI_le {rs : List (Int × Value × List UInt8)} (h : ∀ r ∈ rs, r.2.2.length ≤ 512) (k : Nat) : (joinI rs k).length ≤ 512 * k := by
  induction k with
  | zero => simp [joinI]
  | succ k ih => rw [joinI_snoc, List.length_append]; have := rowOf_le h (k : Int); omega
theorem withP_short {rs : List (Int × Value × List UInt8)} (h : ∀ r ∈ rs, r.2.2.length ≤ 512) {p : Prt} (hp : p.bytes.length ≤ 512) (v : Value) : ∀ r ∈ withP rs p v, r.2.2.length ≤ 512 := by
  unfold withP
  split
  · exact h
  · intro r hr
    rcases List.mem_append.1 hr with hr | hr
    · exact h r hr
    · simp only [List.mem_singleton] at hr
      subst hr; exact hp
theorem ibxOwn_snoc (e : TypeId) (rs : List (Int × Value × List UInt8)) (k : Int) (v : Value) (b : List UInt8) : ibxOwn e (rs ++ [(k, v, b)]) = ibxOwn e rs ++ [.row v e 1 b.length (bv b)] := by simp [ibxOwn]
theorem kv_snoc (rs : List (Int × Value × List UInt8)) (k : Int) (v : Value) (b : List UInt8) : kv (rs ++ [(k, v, b)]) = kv rs ++ [(k, v)] := by simp [kv]
theorem kv_length (rs : List (Int × Value × List UInt8)) : (kv rs).length = rs.length := by simp [kv]
theorem putI_no {S : Ibx} {p : Prt} (v : Value) (h : mayP p = false) : putI S p v = (S, Snp.none, false, 1) := by unfold putI; rw [if_pos h]
theorem putI_ref {S : Ibx} {p : Prt} (v : Value) (h : mayP p = true) (hb : baseI S p = none) : putI S p v = (S, Snp.none, false, 91) := by
  unfold putI; rw [if_neg (by rw [h]; simp), hb]
theorem putI_few {S : Ibx} {p : Prt} {rs : List (Int × Value × List UInt8)} (v : Value) (h : mayP p = true) (hb : baseI S p = some rs) (hl : (withP rs p v).length < p.many.toNat) :
    putI S p v = (⟨some (p.term, p.idx), p.many.toNat, withP rs p v⟩, Snp.none, false, 0) := by
  unfold putI; rw [if_neg (by rw [h]; simp), hb]; simp only; rw [if_pos hl]
theorem putI_end {S : Ibx} {p : Prt} {rs : List (Int × Value × List UInt8)} (v : Value) (h : mayP p = true) (hb : baseI S p = some rs) (hl : ¬ (withP rs p v).length < p.many.toNat) :
    putI S p v = (⟨some (p.term, p.idx), 0, []⟩, endI p (joinI (withP rs p v) p.many.toNat)) := by
  unfold putI; rw [if_neg (by rw [h]; simp), hb]; simp only; rw [if_neg hl]
theorem endI_bad1 {p : Prt} {b : List UInt8} (h : (readV b).2 ≠ 0) : endI p b = (Snp.none, false, 91) := by unfold endI; rw [if_pos h]
theorem endI_bad2 {p : Prt} {b : List UInt8} (h : (readV b).2 = 0) (hn : ¬ ((readV b).1.term = p.term ∧ (readV b).1.idx = p.idx)) : endI p b = (Snp.none, false, 91) := by unfold endI; rw [if_neg (by omega), if_neg hn]
theorem endI_ok {p : Prt} {b : List UInt8} (h : (readV b).2 = 0) (hn : (readV b).1.term = p.term ∧ (readV b).1.idx = p.idx) : endI p b = ((readV b).1, true, 0) := by unfold endI; rw [if_neg (by omega), if_pos hn]
theorem withP_new {rs : List (Int × Value × List UInt8)} {p : Prt} (v : Value) (h : has rs p.n = false) : withP rs p v = rs ++ [(p.n, v, p.bytes)] := by unfold withP; rw [if_neg (by rw [h]; simp)]
theorem withP_old {rs : List (Int × Value × List UInt8)} {p : Prt} (v : Value) (h : has rs p.n = true) : withP rs p v = rs := by unfold withP; rw [if_pos h]
end Go.Proofs.YtjcchjgkkplamaaGreatDoor
