/- The calculus of SW: a literal's bytes that a conversion has marked. Plain theorems. -/
import Derived.Test.YtjcchjgkkplamaaGreatDoorSWMap
import Derived.Test.YtjcchjgkkplamaaGreatDoorSWV
set_option linter.unusedVariables false
set_option linter.unusedSimpArgs false
set_option maxRecDepth 100000
namespace Go.SW
open Go Go.RowKit
/-- Cells that are read only: a literal's bytes, once they are marked. -/
def Own.mkd (b : Nat) (e : TypeId) (xs : List Value) : Own where
  blks := [b]
  at' w := ∃ cur fz, w.heap[b]? = some (.cells cur e fz) ∧ ∀ (j : Nat) (u : Value), xs[j]? = some u → cur[j]? = some u
  lt' w h g hg := by
    simp only [List.mem_singleton] at hg
    subst hg
    obtain ⟨cur, fz, h1, _⟩ := h
    exact (Array.getElem?_eq_some_iff.1 h1).1
  kept' w w' h hk := by
    obtain ⟨cur, fz, h1, h2⟩ := h
    exact ⟨cur, fz, (hk b (by simp)).trans h1, h2⟩
section
variable {P : Program} {n : Nat} {ops : Array Oper} {Q : Exit → Act → World → Prop} {i : Nat} {fr : Fr} {w w0 : World} {z : Zone} {F : List Nat} {os : List Own}
variable {K : Fr → World → Prop} {d : Option Tmp} {ty : TypeId} {pos : String} {aft : Array Edge} {g : Option (Nat × Bool)}
theorem mkd_row (hH : Hp w0 w z F os) (k : Nat) {b : Nat} {e : TypeId} {xs : List Value} (hk : os[k]? = some (.mkd b e xs)) {l cap : Nat} (hl : xs.length = l) (hc : l ≤ cap) (hm : cap ≤ maxLen) : Row w.cell? (.slice (some ⟨b, 0, none⟩) l cap) 1 l xs := by
  have h : ∃ cur fz, w.heap[b]? = some (.cells cur e fz) ∧ ∀ (j : Nat) (u : Value), xs[j]? = some u → cur[j]? = some u := hH.own _ (List.mem_of_getElem? hk)
  obtain ⟨cur, fz, h1, h2⟩ := h
  refine ⟨by omega, _, cap, rfl, hc, hm, fun j u hu => ⟨_, rfl, ?_⟩⟩
  rw [add_blk, Nat.zero_add]
  simp [World.cell?, h1, h2 j u hu]
theorem st_convB {t ty2 e : TypeId} {x : Operand} (k : Nat) (hi : ops[i]? = some ⟨d, .convert t t x, ty2, pos, aft, g⟩) (hg : guardV ops fr ⟨d, .convert t t x, ty2, pos, aft, g⟩ = some true) (hs : (dok n d && knowns fr (.convert t t x) && true) = true)
    (ht : elemT P t = some e) (he : P.underlying e = some (.int .u8)) (hH : Hp w0 w z F os) {b l cap : Nat} {xs : List Value} (hk : os[k]? = some (.row (.slice (some ⟨b, 0, none⟩) l cap) e 1 l xs)) (hx : ev fr x = .slice (some ⟨b, 0, none⟩) l cap)
    (h : ∀ w', Hp w0 w' z F (os.set k (.mkd b e xs)) → K (pf fr d (.slice (some ⟨b, 0, none⟩) l cap)) w') : ST P n ops Q i K fr w := by
  have hr := hH.row_at k hk
  have hrow := hH.row_reads k hk
  rcases hr.2 with ⟨hv, _⟩ | ⟨b', cap', cur, hv, hbb, hheap, hrest⟩
  · cases hv
  · cases hv
    have hsh : w.shape? b = some (e, cur.size) := by simp [World.shape?, hheap]
    have hfz : ∃ f : Obj → Obj, w.freeze ⟨b, cur.size, none⟩ 1 = { w with heap := w.heap.modify b f } ∧ f (.cells cur e (0, 0)) = .cells cur e (cur.size, cur.size + 1) := by
      refine ⟨_, by unfold World.freeze; rw [if_neg (by decide)], ?_⟩
      simp
    obtain ⟨f, hf1, hf2⟩ := hfz
    have hnew : (w.freeze ⟨b, cur.size, none⟩ 1).heap[b]? = some (.cells cur e (cur.size, cur.size + 1)) := by
      rw [hf1]; simp [Array.getElem?_modify, hheap, hf2]
    refine st_run hi hg hs _ (w.freeze ⟨b, cur.size, none⟩ 1) ?_ (h _ ?_)
    · simp [execOp, hx, convert, run_underlying (underlying_of_elem ht), run_underlying he, markStringish, hsh, Result.andThen]
    · refine hH.turn k hk (some b) (fun g e => by cases e; simp [Own.row, Value.ownBlock]) (by rw [hf1]; exact ⟨rfl, rfl, rfl, by simp, fun j _ hj => by
          have : b ≠ j := fun e => hj (by rw [e])
          simp [Array.getElem?_modify, this]⟩) ⟨cur, _, hnew, fun j u hu => ?_⟩ (fun g hg => .inl (by simpa [Own.row, Value.ownBlock, Own.mkd] using hg)) (by simp [Own.mkd])
      obtain ⟨_, A, c2, hv2, _, _, h3⟩ := hrow
      cases hv2
      obtain ⟨ad, e1, e2⟩ := h3 j u hu
      cases e1
      rw [add_blk, Nat.zero_add] at e2
      simpa [World.cell?, hheap] using e2
end
end Go.SW
