/- The calculus of SW: bytes with spare room; rows that are written over whole. Plain theorems. -/
import Derived.Test.YtjcchjgkkplamaaGreatDoorSWS
import Derived.Test.YtjcchjgkkplamaaGreatDoorSWMap
set_option linter.unusedVariables false
set_option linter.unusedSimpArgs false
set_option maxRecDepth 100000
namespace Go.SW
open Go Go.RowKit
section
variable {P : Program} {n : Nat} {ops : Array Oper} {Q : Exit → Act → World → Prop} {i : Nat} {fr : Fr} {w w0 : World} {z : Zone} {F : List Nat} {os : List Own}
variable {K : Fr → World → Prop} {d : Option Tmp} {ty : TypeId} {pos : String} {aft : Array Edge} {g : Option (Nat × Bool)}
/-- make([]T, l, c): the whole block is owned. -/
theorem st_makeLC {t e : TypeId} {x y : Operand} (hi : ops[i]? = some ⟨d, .makeSlice t x y, ty, pos, aft, g⟩) (hg : guardV ops fr ⟨d, .makeSlice t x y, ty, pos, aft, g⟩ = some true) (hs : (dok n d && knowns fr (.makeSlice t x y) && true) = true)
    (ht : elemT P t = some e) {zv : Value} {bytes : Nat} (he : (P.info? e).map (fun i => (i.zero, i.size, i.bytes)) = some (some zv, 1, bytes)) (hz1 : zv.cells = #[zv])
    (l c : Nat) {k k' : IntKind} (hx : ev fr x = .int k l) (hy : ev fr y = .int k' c) (hlc : l ≤ c) (hb : bytes * c ≤ 281474976710656) (hm : c ≤ maxLen) (hH : Hp w0 w z F os)
    (h : ∀ b w', Hp w0 w' z F (os ++ [.row (.slice (some ⟨b, 0, none⟩) c c) e 1 c (List.replicate c zv)]) → K (pf fr d (.slice (some ⟨b, 0, none⟩) l c)) w') : ST P n ops Q i K fr w := by
  obtain ⟨inf, h1, h2, h3, h4⟩ := info_parts he
  have hr := run_make (P := P) w t e inf zv (underlying_of_elem ht) h1 h2 k k' l c (by omega) (by omega) (by rw [h4, ← Int.natCast_mul]; omega) (by unfold maxLen at hm; omega)
  simp only [Int.toNat_natCast, h3, Nat.mul_one, hz1] at hr
  have hrow : (w.alloc (.cells (madeCells #[zv] c) e)).ownsRow w.heap.size e 1 (.slice (some ⟨w.heap.size, 0, none⟩) c c) c (List.replicate c zv) :=
    ⟨by simp, .inr ⟨w.heap.size, c, madeCells #[zv] c, rfl, Nat.le_refl _, heap_alloc_new w _, Nat.le_refl _, hm, by simp [madeCells], by rw [toList_madeCells_one, Nat.mul_one, List.take_of_length_le (by simp)]⟩⟩
  refine st_run hi hg hs _ (w.alloc (.cells (madeCells #[zv] c) e)) ?_ (h w.heap.size _ (hH.call (w' := w.alloc (.cells (madeCells #[zv] c) e)) (Fresh.row ((Below.refl _ _).grown (World.grownBy_alloc w _ none) (Nat.le_refl _) (fun k h => by cases h)) hrow)))
  simp [execOp, hx, hy, hr, Result.andThen]
theorem lent_copy (l : List UInt8) : (List.replicate (l.length + 1) (Value.int .u8 0)).take 0 ++ (bv l).take (min l.length l.length) ++ (List.replicate (l.length + 1) (Value.int .u8 0)).drop (0 + min l.length l.length) = bv (l ++ [0]) := by
  simp [bv, List.take_of_length_le]
theorem lent_set (l : List UInt8) : (bv (l ++ [0])).set (l.length * 1) (.int .u8 77) = bv (l ++ [77]) := by
  simp [bv, List.set_append]
theorem lent_row {c : Zone} {a : Option Addr} {l : List UInt8} {x : UInt8} (h : Row c (.slice a (l.length + 1) (l.length + 1)) 1 (l.length + 1) (bv (l ++ [x]))) : RB c (.slice a l.length (l.length + 1)) l := by
  obtain ⟨h0, A, cap, e, h1, h2, h3⟩ := h
  cases e
  refine ⟨by simp [bv], a, l.length + 1, rfl, by omega, h2, fun j u hu => h3 j u ?_⟩
  simp only [bv, List.map_append]
  rw [List.getElem?_append_left (by have := (List.getElem?_eq_some_iff.1 hu).1; simpa [bv] using this)]
  exact hu
theorem lent_last (l : List UInt8) : (bv (l ++ [77]))[l.length * 1 + 0]? = some (.int .u8 77) := by simp [bv]
theorem cut_whole {A : Option Addr} {l c m : Nat} (h : l ≤ c) : CutOf (.slice A l c) m 0 c c (.slice (if c = 0 then A else A) c c) := ⟨A, l, c, rfl, by omega, by omega, by omega, by
  simp only [Nat.zero_mul, Nat.sub_zero]
  cases A with
  | none => simp
  | some a => simp [add_zero]⟩
theorem cut_all {A : Option Addr} {l c m : Nat} (h : l ≤ c) : CutOf (.slice A l c) m 0 c c (.slice A c c) := by
  have := cut_whole (A := A) (l := l) (c := c) (m := m) h
  simpa using this
end
/-! ### Rows that are written over whole -/
/-- The value with all of its room. -/
def fullV : Value → Value
  | .slice A _ c => .slice A c c
  | v => v
def capV : Value → Nat
  | .slice _ _ c => c
  | _ => 0
theorem full_blks (v : Value) : (fullV v).ownBlock = v.ownBlock := by
  cases v with
  | slice A l c => cases A <;> rfl
  | _ => rfl
/-- A row of its own, whatever stands in it. -/
def anyO (e : TypeId) (v : Value) : Own where
  blks := v.ownBlock.toList
  at' w := ∃ xs, w.ownsRow 0 e 1 (fullV v) (capV v) xs ∧ (v = .slice none 0 0 ∨ ∃ A l c, v = .slice A l c ∧ l ≤ c)
  lt' w h g hg := by
    obtain ⟨xs, h1, _⟩ := h
    have : (Own.row (fullV v) e 1 (capV v) xs).blks = v.ownBlock.toList := by
      show (fullV v).ownBlock.toList = v.ownBlock.toList
      rw [full_blks]
    exact (Own.row (fullV v) e 1 (capV v) xs).lt' w h1 g (by rw [this]; exact hg)
  kept' w w' h hk := by
    obtain ⟨xs, h1, h2⟩ := h
    have : (Own.row (fullV v) e 1 (capV v) xs).blks = v.ownBlock.toList := by
      show (fullV v).ownBlock.toList = v.ownBlock.toList
      rw [full_blks]
    exact ⟨xs, (Own.row (fullV v) e 1 (capV v) xs).kept' w w' h1 (fun g hg => hk g (by rw [← this]; exact hg)), h2⟩
/-- A row all of whose room holds one value. -/
def repO (e : TypeId) (u : Value) (v : Value) : Own := .row (fullV v) e 1 (capV v) (List.replicate (capV v) u)
/-- The first i rows are written over: row j by u j. -/
def mixO (e : TypeId) (u : Nat → Value) (vs : List Value) (i : Nat) : List Own := vs.zipIdx.map fun x => if x.2 < i then repO e (u x.2) x.1 else anyO e x.1
theorem mixO_get {e : TypeId} {u : Nat → Value} {vs : List Value} {i j : Nat} (hj : j < vs.length) : (mixO e u vs i)[j]? = some (if j < i then repO e (u j) (vs.getD j undef) else anyO e (vs.getD j undef)) := by
  simp [mixO, hj, List.getD_eq_getElem?_getD]
theorem mixO_zero (e : TypeId) (u : Nat → Value) (vs : List Value) : mixO e u vs 0 = vs.map (anyO e) := by
  apply List.ext_getElem?
  intro j
  by_cases hj : j < vs.length
  · rw [mixO_get hj, if_neg (by omega)]
    simp [hj, List.getD_eq_getElem?_getD]
  · rw [List.getElem?_eq_none (by simpa [mixO] using hj), List.getElem?_eq_none (by simpa using hj)]
theorem mixO_step {e : TypeId} {u : Nat → Value} {vs : List Value} {i : Nat} (hi : i < vs.length) : (mixO e u vs i).set i (repO e (u i) (vs.getD i undef)) = mixO e u vs (i + 1) := by
  apply List.ext_getElem?
  intro j
  rw [List.getElem?_set]
  by_cases hij : i = j
  · subst hij
    rw [if_pos rfl, if_pos (by simpa [mixO] using hi), mixO_get hi, if_pos (by omega)]
  · rw [if_neg hij]
    by_cases hj : j < vs.length
    · rw [mixO_get hj, mixO_get hj]
      by_cases h : j < i
      · rw [if_pos h, if_pos (by omega)]
      · rw [if_neg h, if_neg (by omega)]
    · rw [List.getElem?_eq_none (by simpa [mixO] using hj), List.getElem?_eq_none (by simpa [mixO] using hj)]
theorem perm_erase {α : Type} : ∀ (l : List α) (i : Nat) (o : α), l[i]? = some o → (o :: l.eraseIdx i).Perm l
  | [], i, o, h => by simp at h
  | a :: l, 0, o, h => by
    simp only [List.getElem?_cons_zero, Option.some.injEq] at h
    subst h
    exact List.Perm.refl _
  | a :: l, i + 1, o, h => by
    rw [List.eraseIdx_cons_succ]
    exact (List.Perm.swap _ _ _).trans ((perm_erase l i o (by simpa using h)).cons a)
section
variable {w w0 : World} {z : Zone} {F : List Nat} {os : List Own}
/-- One of a group is taken out. -/
theorem Hp.out {l r : List Own} (h : Hp w0 w z F (.grp l :: r)) (i : Nat) {o : Own} (ho : l[i]? = some o) : Hp w0 w z F (o :: .grp (l.eraseIdx i) :: r) := by
  have hp : l.Perm (o :: l.eraseIdx i) := (perm_erase l i o ho).symm
  have h1 := h.open_
  have h2 : Hp w0 w z F (o :: (l.eraseIdx i ++ r)) := h1.perm (by simpa using hp.append_right r)
  have h3 : Hp w0 w z F (l.eraseIdx i ++ (o :: r)) := h2.perm (by simpa using List.perm_middle.symm)
  exact h3.close.perm (List.Perm.swap _ _ _)
/-- Put back, turned. -/
theorem Hp.into {l r : List Own} {i : Nat} {o : Own} (hi : i < l.length) (h : Hp w0 w z F (o :: .grp (l.eraseIdx i) :: r)) : Hp w0 w z F (.grp (l.set i o) :: r) := by
  have h2 : Hp w0 w z F (.grp (l.eraseIdx i) :: o :: r) := h.perm (List.Perm.swap _ _ _)
  have h3 := h2.open_
  have hp : (l.eraseIdx i ++ (o :: r)).Perm (l.set i o ++ r) := by
    have h4 : (o :: l.eraseIdx i).Perm (l.set i o) := by
      have := perm_erase (l.set i o) i o (by simp [hi])
      simpa [List.eraseIdx_set_eq] using this
    exact List.perm_middle.trans (by simpa using h4.append_right r)
  exact (h3.perm hp).close
/-- What is owned is told less sharply. -/
theorem Hp.weak {o o' : Own} {r : List Own} (h : Hp w0 w z F (o :: r)) (hb : o'.blks = o.blks) (ha : o.at w → o'.at w) : Hp w0 w z F (o' :: r) := by
  have e : blksOf (o' :: r) = blksOf (o :: r) := by simp only [blksOf, List.flatMap_cons, hb]
  refine ⟨h.os_, h.tape, h.output, h.size, h.keep, h.zin, fun x hx => ?_, by rw [e]; exact h.nodup, fun g hg => h.new g (by rw [← e]; exact hg)⟩
  rcases List.mem_cons.1 hx with rfl | hx
  · exact ha (h.own o List.mem_cons_self)
  · exact h.own x (List.mem_cons_of_mem _ hx)
theorem any_row {e : TypeId} {v : Value} {r : List Own} (h : Hp w0 w z F (anyO e v :: r)) : ∃ A l c xs, v = .slice A l c ∧ l ≤ c ∧ Hp w0 w z F (.row (.slice A c c) e 1 c xs :: r) := by
  obtain ⟨xs, h1, h2⟩ : ∃ xs, w.ownsRow 0 e 1 (fullV v) (capV v) xs ∧ (v = .slice none 0 0 ∨ ∃ A l c, v = .slice A l c ∧ l ≤ c) := h.own _ List.mem_cons_self
  have hv : ∃ A l c, v = .slice A l c ∧ l ≤ c := by
    rcases h2 with h2 | h2
    · exact ⟨none, 0, 0, h2, Nat.le_refl _⟩
    · exact h2
  obtain ⟨A, l, c, rfl, hlc⟩ := hv
  exact ⟨A, l, c, xs, rfl, hlc, h.weak (o' := .row (.slice A c c) e 1 c xs) (by cases A <;> rfl) (fun _ => h1)⟩
theorem rep_row {e : TypeId} {u v : Value} {r : List Own} (h : Hp w0 w z F (repO e u v :: r)) (hv : ∃ A l c, v = .slice A l c) : ∃ A l c, v = .slice A l c ∧ Hp w0 w z F (.row (.slice A c c) e 1 c (List.replicate c u) :: r) := by
  obtain ⟨A, l, c, rfl⟩ := hv
  exact ⟨A, l, c, rfl, h⟩
/-- A row is a row, whatever stands in it. -/
theorem row_any {e : TypeId} {v : Value} {l : Nat} {xs : List Value} {r : List Own} (h : Hp w0 w z F (.row v e 1 l xs :: r)) : Hp w0 w z F (anyO e v :: r) := by
  have hr : w.ownsRow 0 e 1 v l xs := h.own _ List.mem_cons_self
  refine h.weak (o' := anyO e v) rfl (fun _ => ?_)
  rcases hr.2 with ⟨rfl, rfl⟩ | ⟨g, cap, cur, rfl, hb, hg, hn, hm, hs, ht⟩
  · exact ⟨[], ⟨rfl, .inl ⟨rfl, rfl⟩⟩, .inl rfl⟩
  · refine ⟨cur.toList, ⟨by simpa [capV] using hs, .inr ⟨g, cap, cur, rfl, hb, hg, Nat.le_refl _, hm, by simpa [capV] using hs, ?_⟩⟩, .inr ⟨_, _, _, rfl, hn⟩⟩
    exact List.take_of_length_le (by simp [capV, hs])
/-- A slice of a whole row. -/
theorem row_any' {e : TypeId} {A : Option Addr} {l c : Nat} {xs : List Value} {r : List Own} (hlc : l ≤ c) (h : Hp w0 w z F (.row (.slice A c c) e 1 c xs :: r)) : Hp w0 w z F (anyO e (.slice A l c) :: r) :=
  h.weak (o' := anyO e (.slice A l c)) (by cases A <;> rfl) (fun h1 => ⟨xs, h1, .inr ⟨A, l, c, rfl, hlc⟩⟩)
end
end Go.SW
