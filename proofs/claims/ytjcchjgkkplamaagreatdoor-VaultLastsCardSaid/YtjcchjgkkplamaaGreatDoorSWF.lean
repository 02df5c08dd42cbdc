/- Rows of several cells an element, told element by element. Plain theorems. -/
import Derived.Test.YtjcchjgkkplamaaGreatDoorSWR
set_option linter.unusedVariables false
namespace Go.SW
open Go Go.RowKit
theorem flat_get {α : Type} : ∀ (L : List (List α)) (m : Nat), (∀ c ∈ L, c.length = m) → ∀ (i q : Nat) (c : List α), L[i]? = some c → q < m → L.flatten[i * m + q]? = c[q]?
  | [], m, _, i, q, c, h, _ => by simp at h
  | d :: L, m, hL, 0, q, c, h, hq => by
    simp only [List.getElem?_cons_zero, Option.some.injEq] at h
    subst h
    rw [List.flatten_cons, List.getElem?_append_left (by rw [hL d List.mem_cons_self]; omega), Nat.zero_mul, Nat.zero_add]
  | d :: L, m, hL, i + 1, q, c, h, hq => by
    rw [List.getElem?_cons_succ] at h
    have hd : d.length = m := hL d List.mem_cons_self
    have e : (i + 1) * m = i * m + m := Nat.succ_mul i m
    rw [List.flatten_cons, List.getElem?_append_right (by omega), show (i + 1) * m + q - d.length = i * m + q by omega]
    exact flat_get L m (fun c hc => hL c (List.mem_cons_of_mem _ hc)) i q c h hq
theorem flat_len {α : Type} : ∀ (L : List (List α)) (m : Nat), (∀ c ∈ L, c.length = m) → L.flatten.length = L.length * m
  | [], m, _ => by simp
  | d :: L, m, hL => by
    rw [List.flatten_cons, List.length_append, hL d List.mem_cons_self, flat_len L m (fun c hc => hL c (List.mem_cons_of_mem _ hc)), List.length_cons, Nat.succ_mul]; omega
theorem list_choose {α β : Type} {f : β → α} {Q : β → Prop} : ∀ (L : List α), (∀ c ∈ L, ∃ x, c = f x ∧ Q x) → ∃ xs : List β, L = xs.map f ∧ ∀ x ∈ xs, Q x
  | [], _ => ⟨[], rfl, by simp⟩
  | a :: L, h => by
    obtain ⟨x, e, hx⟩ := h a List.mem_cons_self
    obtain ⟨xs, e2, hxs⟩ := list_choose L (fun c hc => h c (List.mem_cons_of_mem _ hc))
    exact ⟨x :: xs, by rw [e, e2]; rfl, fun y hy => by
      rcases List.mem_cons.1 hy with rfl | hy
      · exact hx
      · exact hxs y hy⟩
/-- The cells of a row whose elements are f of the things in xs. -/
def rowC {β : Type} (f : β → List Value) (xs : List β) : List Value := (xs.map f).flatten
theorem rowC_at {β : Type} {f : β → List Value} {m : Nat} (hf : ∀ x, (f x).length = m) {xs : List β} {k : Nat} {x : β} (hk : xs[k]? = some x) (q : Nat) (hq : q < m) {u : Value} (hu : (f x)[q]? = some u) : (rowC f xs)[k * m + q]? = some u := by
  rw [← hu]
  exact flat_get (xs.map f) m (by simp [hf]) k q (f x) (by simp [hk]) hq
theorem rowC_all {β : Type} {f : β → List Value} {m : Nat} (hf : ∀ x, (f x).length = m) {xs : List β} {k : Nat} {x : β} (hk : xs[k]? = some x) (q : Nat) (cs : List Value) (hc : ((f x).drop q).take cs.length = cs) : ∀ i u, cs[i]? = some u → q + i < m ∧ (rowC f xs)[k * m + (q + i)]? = some u := by
  intro i u hi
  have hil : i < cs.length := (List.getElem?_eq_some_iff.1 hi).1
  have h : (f x)[q + i]? = some u := by
    rw [← hc, List.getElem?_take, if_pos hil, List.getElem?_drop] at hi
    exact hi
  have hl : q + i < m := by
    have := (List.getElem?_eq_some_iff.1 h).1
    rwa [hf] at this
  exact ⟨hl, rowC_at hf hk _ hl h⟩
theorem rowC_take {β : Type} {f : β → List Value} {m : Nat} (hf : ∀ x, (f x).length = m) : ∀ (xs : List β) (k : Nat), (rowC f xs).take (k * m) = rowC f (xs.take k)
  | [], k => by simp [rowC]
  | x :: xs, 0 => by simp [rowC]
  | x :: xs, k + 1 => by
    have ih := rowC_take hf xs k
    unfold rowC at ih ⊢
    rw [List.map_cons, List.flatten_cons, List.take_succ_cons, List.map_cons, List.flatten_cons, Nat.succ_mul, List.take_append, List.take_of_length_le (by rw [hf]; omega), hf, Nat.add_sub_cancel, ih]
theorem rowC_drop {β : Type} {f : β → List Value} {m : Nat} (hf : ∀ x, (f x).length = m) : ∀ (xs : List β) (k : Nat), (rowC f xs).drop (k * m) = rowC f (xs.drop k)
  | [], k => by simp [rowC]
  | x :: xs, 0 => by simp [rowC]
  | x :: xs, k + 1 => by
    have ih := rowC_drop hf xs k
    unfold rowC at ih ⊢
    rw [List.map_cons, List.flatten_cons, List.drop_succ_cons, Nat.succ_mul, List.drop_append, List.drop_of_length_le (by rw [hf]; omega), hf, Nat.add_sub_cancel, ih, List.nil_append]
theorem rowC_app {β : Type} (f : β → List Value) (xs ys : List β) : rowC f xs ++ rowC f ys = rowC f (xs ++ ys) := by simp [rowC]
theorem rowC_one {β : Type} (f : β → List Value) (x : β) : rowC f [x] = f x := by simp [rowC]
theorem rowC_len {β : Type} {f : β → List Value} {m : Nat} (hf : ∀ x, (f x).length = m) (xs : List β) : (rowC f xs).length = xs.length * m := by
  unfold rowC
  rw [flat_len _ m (by simp [hf]), List.length_map]
theorem rowC_set {β : Type} {f : β → List Value} {m : Nat} (hf : ∀ x, (f x).length = m) {xs : List β} {k : Nat} {x : β} (hk : k < xs.length) : (rowC f xs).take (k * m) ++ f x ++ (rowC f xs).drop (k * m + (f x).length) = rowC f (xs.set k x) := by
  have e : k * m + (f x).length = (k + 1) * m := by rw [hf, Nat.succ_mul]
  rw [e, rowC_take hf, rowC_drop hf, ← rowC_one f x, rowC_app, rowC_app, List.set_eq_take_append_cons_drop, if_pos hk, List.append_assoc]
  rfl
theorem rowC_allO {β : Type} {f : β → List Value} {m : Nat} (hf : ∀ x, (f x).length = m) {xs : List β} {k : Nat} {x : β} (hk : xs[k]? = some x) (cs : List Value) (hc : (f x).take cs.length = cs) : ∀ i u, cs[i]? = some u → (rowC f xs)[k * m + i]? = some u := fun i u hi => by
  have h := (rowC_all hf hk 0 cs (by rw [List.drop_zero]; exact hc) i u hi).2
  rwa [Nat.zero_add] at h
section
variable {P : Program} {n : Nat} {ops : Array Oper} {Q : Exit → Act → World → Prop} {i : Nat} {fr : Fr} {w w0 : World} {z : Zone} {F : List Nat} {os : List Own}
variable {K : Fr → World → Prop} {d : Option Tmp} {ty : TypeId} {pos : String} {aft : Array Edge} {g : Option (Nat × Bool)}
/-- A store of several cells into a row. -/
theorem st_storeOA {t : TypeId} {x y : Operand} (k : Nat) (hi : ops[i]? = some ⟨d, .store t x y, ty, pos, aft, g⟩) (hg : guardV ops fr ⟨d, .store t x y, ty, pos, aft, g⟩ = some true) (hs : (dok n d && knowns fr (.store t x y) && true) = true)
    (hH : Hp w0 w z F os) {b o : Nat} (hx : ev fr x = .pointer (some ⟨b, o, none⟩)) {vs : List Value} (hy : (ev fr y).cells = vs.toArray) (hv : (vs.all Value.oneCell') = true) (hz : sizeT P t = some vs.length) {v : Value} {e : TypeId} {m l : Nat} {xs : List Value} (hk : os[k]? = some (.row v e m l xs)) (hb : v.ownBlock = some b) (ho : o + vs.length ≤ xs.length)
    (h : ∀ w', Hp w0 w' z F (os.set k (.row v e m l (xs.take o ++ vs ++ xs.drop (o + vs.length)))) → K (pf fr d undef) w') : ST P n ops Q i K fr w := by
  have hr := hH.row_at k hk
  rcases hr.2 with ⟨rfl, rfl⟩ | ⟨b', cap, cur, rfl, hbb, hheap, hn, hmx, hsz, htk⟩
  · simp [Value.ownBlock] at hb
  · have hb' : b' = b := by simpa [Value.ownBlock] using hb
    subst hb'
    have hl := hr.1
    have hxc : xs.length ≤ cur.size := by rw [← htk]; simp; omega
    have hrun := run_storeCells_at P b' o e vs 0 cur w hheap (by omega) (by simpa [List.all_eq_true] using hv)
    refine st_run0 hi hg hs (w.setRow b' (cur.toList.take (o + 0) ++ vs ++ cur.toList.drop (o + 0 + vs.length)).toArray) ?_ (h _ ?_)
    · simp [execOp, hx, Instr.storeAt, Instr.sureAddr, storeVar, run_sizeOf_of hz, hy, hrun, Result.andThen]
    · refine hH.turn k hk (some b') (fun g e => by cases e; simp [Own.row, Value.ownBlock]) ⟨rfl, rfl, rfl, by simp [World.setRow], fun j _ hj => ?_⟩ ⟨?_, .inr ⟨b', cap, _, rfl, hbb, setRow_heap w b' cur _ e (0, 0) hheap, hn, hmx, ?_, ?_⟩⟩ (fun g hg => .inl hg) (by simp [Own.row, Value.ownBlock])
      · have : b' ≠ j := fun e => hj (by rw [e])
        simp [World.setRow, Array.getElem?_modify, this]
      · simp; omega
      · simp; omega
      · simp only [Nat.add_zero]
        have hx2 : xs = cur.toList.take (l * m) := htk.symm
        apply List.ext_getElem?
        intro j
        rw [List.getElem?_take]
        by_cases hj : j < l * m
        · rw [if_pos hj]
          simp only [List.getElem?_append, List.length_append, List.length_take, List.getElem?_take, List.getElem?_drop, Array.length_toList, List.toList_toArray]
          have e1 : min o cur.size = o := by omega
          have e2 : min o xs.length = o := by omega
          rw [e1, e2]
          by_cases h1 : j < o + vs.length
          · rw [if_pos h1, if_pos h1]
            by_cases h2 : j < o
            · rw [if_pos h2, if_pos h2, if_pos h2, if_pos h2, hx2, List.getElem?_take, if_pos hj]
            · rw [if_neg h2, if_neg h2]
          · rw [if_neg h1, if_neg h1, hx2, List.getElem?_take, if_pos (by omega)]
        · rw [if_neg hj, List.getElem?_eq_none]
          simp; omega
end
end Go.SW
