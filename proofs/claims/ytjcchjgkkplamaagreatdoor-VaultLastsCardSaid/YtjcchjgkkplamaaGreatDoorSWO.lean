/- The calculus of SW: rows of the call's own, read beside a call that turns others. Plain theorems. -/
import Derived.Test.YtjcchjgkkplamaaGreatDoorSWB
set_option linter.unusedVariables false
set_option linter.unusedSimpArgs false
set_option maxRecDepth 100000
namespace Go.SW
open Go Go.RowKit
section
variable {w w0 : World} {z : Zone} {F : List Nat} {mine os : List Own}
theorem zoff_res (hH : Hp w0 w z F (mine ++ os)) {o : Own} (ho : o ∈ os) {A : Option Addr} {l c m n : Nat} {xs : List Value} (hr : Row w.cell? (.slice A l c) m n xs) (hb : ∀ ad, A = some ad → ad.block ∈ o.blks) : Row (off w (blksOf mine)) (.slice A l c) m n xs := by
  obtain ⟨h0, A', cap, e, h1, h2, h3⟩ := hr
  cases e
  refine ⟨h0, A, c, rfl, h1, h2, fun j u hu => ?_⟩
  obtain ⟨ad, rfl, hc⟩ := h3 j u hu
  refine ⟨ad, rfl, ?_⟩
  have hblk : (ad.add j).block = ad.block := by unfold Addr.add; split <;> rfl
  have hn := hH.nodup
  rw [blksOf_append] at hn
  have hnot : ad.block ∉ blksOf mine := fun hm => (List.nodup_append.1 hn).2.2 _ hm _ (List.mem_flatMap.2 ⟨o, ho, hb ad rfl⟩) rfl
  unfold off
  rw [if_neg (by rw [hblk]; exact hnot)]
  exact hc
theorem zoff_row (hH : Hp w0 w z F (mine ++ os)) (k : Nat) {v : Value} {e : TypeId} {m n : Nat} {xs : List Value} (hk : os[k]? = some (.row v e m n xs)) : Row (off w (blksOf mine)) v m n xs := by
  have hm := List.mem_of_getElem? hk
  have hr : w.ownsRow 0 e m v n xs := hH.own _ (List.mem_append_right _ hm)
  obtain ⟨A, c, rfl, _⟩ := (Row.of_own hr).form
  refine zoff_res hH hm (Row.of_own hr) (fun ad e2 => ?_)
  subst e2
  rcases hr.2 with ⟨hv, _⟩ | ⟨g, cap', cur, hv, _⟩
  · cases hv
  · cases hv; simp [Own.row, Value.ownBlock]
theorem zoff_mkd (hH : Hp w0 w z F (mine ++ os)) (k : Nat) {b : Nat} {e : TypeId} {xs : List Value} (hk : os[k]? = some (.mkd b e xs)) {l cap : Nat} (hl : xs.length = l) (hc : l ≤ cap) (hm : cap ≤ maxLen) : Row (off w (blksOf mine)) (.slice (some ⟨b, 0, none⟩) l cap) 1 l xs := by
  have hmem := List.mem_of_getElem? hk
  have hk2 : (mine ++ os)[mine.length + k]? = some (.mkd b e xs) := by rw [List.getElem?_append_right (by omega), Nat.add_sub_cancel_left]; exact hk
  exact zoff_res hH hmem (mkd_row hH _ hk2 hl hc hm) (fun ad e2 => by cases e2; simp [Own.mkd])
end
end Go.SW
