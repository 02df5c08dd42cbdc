/- Rows of several cells an element, told element by element. Plain theorems. -/
import Derived.Test.YtjcchjgkkplamaaDoorSWR
set_option linter.unusedVariables false
namespace Go.SW
open Go Go.RowKit
theorem flat_get {α : Type} : ∀ (L : List (List α)) (m : Nat), (∀ c ∈ L, c.length = m) → ∀ (i q : Nat) (c : List α), L[i]? = some c → q < m → L.flatten[i * m + q]? = c[q]?
  | [], m, _, i, q, c, h, _ => by simp at h
  | d :: L, m, hL, 0, q, c, h, hq => by
    simp only [List.getElem?_cons_zero, Option.some.injEq] at h
    subst h
    rw [List.flatten_cons, List.getElem?_append_left (by rw [hL d List.mem_cons_self]; omega), Nat.zero_mul, Nat.zero_add]
  | d :: L, m, hL, i + 1, q, c, h, hq => by
    rw [List.getElem?_cons_succ] at h
    have hd : d.length = m := hL d List.mem_cons_self
    have e : (i + 1) * m = i * m + m := Nat.succ_mul i m
    rw [List.flatten_cons, List.getElem?_append_right (by omega), show (i + 1) * m + q - d.length = i * m + q by omega]
    exact flat_get L m (fun c hc => hL c (List.mem_cons_of_mem _ hc)) i q c h hq
theorem flat_len {α : Type} : ∀ (L : List (List α)) (m : Nat), (∀ c ∈ L, c.length = m) → L.flatten.length = L.length * m
  | [], m, _ => by simp
  | d :: L, m, hL => by
    rw [List.flatten_cons, List.length_append, hL d List.mem_cons_self, flat_len L m (fun c hc => hL c (List.mem_cons_of_mem _ hc)), List.length_cons, Nat.succ_mul]; omega
theorem list_choose {α β : Type} {f : β → α} {Q : β → Prop} : ∀ (L : List α), (∀ c ∈ L, ∃ x, c = f x ∧ Q x) → ∃ xs : List β, L = xs.map f ∧ ∀ x ∈ xs, Q x
  | [], _ => ⟨[], rfl, by simp⟩
  | a :: L, h => by
    obtain ⟨x, e, hx⟩ := h a List.mem_cons_self
    obtain ⟨xs, e2, hxs⟩ := list_choose L (fun c hc => h c (List.mem_cons_of_mem _ hc))
    exact ⟨x :: xs, by rw [e, e2]; rfl, fun y hy => by
      rcases List.mem_cons.1 hy with rfl | hy
      · exact hx
      · exact hxs y hy⟩
/-- The cells of a row whose elements are f of the things in xs. -/
def rowC {β : Type} (f : β → List Value) (xs : List β) : List Value := (xs.map f).flatten
theorem rowC_at {β : Type} {f : β → List Value} {m : Nat} (hf : ∀ x, (f x).length = m) {xs : List β} {k : Nat} {x : β} (hk : xs[k]? = some x) (q : Nat) (hq : q < m) {u : Value} (hu : (f x)[q]? = some u) : (rowC f xs)[k * m + q]? = some u := by
  rw [← hu]
  exact flat_get (xs.map f) m (by simp [hf]) k q (f x) (by simp [hk]) hq
theorem rowC_all {β : Type} {f : β → List Value} {m : Nat} (hf : ∀ x, (f x).length = m) {xs : List β} {k : Nat} {x : β} (hk : xs[k]? = some x) (q : Nat) (cs : List Value) (hc : ((f x).drop q).take cs.length = cs) : ∀ i u, cs[i]? = some u → q + i < m ∧ (rowC f xs)[k * m + (q + i)]? = some u := by
  intro i u hi
  have hil : i < cs.length := (List.getElem?_eq_some_iff.1 hi).1
  have h : (f x)[q + i]? = some u := by
    rw [← hc, List.getElem?_take, if_pos hil, List.getElem?_drop] at hi
    exact hi
  have hl : q + i < m := by
    have := (List.getElem?_eq_some_iff.1 h).1
    rwa [hf] at this
  exact ⟨hl, rowC_at hf hk _ hl h⟩
end Go.SW
