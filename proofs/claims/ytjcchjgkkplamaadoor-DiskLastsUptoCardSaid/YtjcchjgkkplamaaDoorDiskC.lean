/- Laws 18: what their walks share. -/
import Derived.Test.YtjcchjgkkplamaaDoorLawDP
set_option maxRecDepth 100000
set_option maxHeartbeats 4000000
set_option linter.unusedVariables false
set_option linter.unusedSimpArgs false
namespace Go.Proofs.YtjcchjgkkplamaaDoor
open Go.RowKit Go.SW
theorem inv_new (N : Nat) : Inv ⟨[], false, none⟩ [] [] 0 N 0 :=
  ⟨⟨List.Pairwise.nil, List.Perm.refl _⟩, rfl, (fun a p e => by cases e), (fun a p e => by cases e), good_nil N, Nat.le_refl _⟩
/-- A file that a law has written over. -/
def spoilt : Fil × Value := (⟨[115, 112, 111, 105, 108, 116], [], 0⟩, .slice none 0 0)
def spoilL (qs : FV) (k : Nat) : FV := List.replicate k spoilt ++ qs.drop k
theorem spoilL_len (qs : FV) {k : Nat} (hk : k ≤ qs.length) : (spoilL qs k).length = qs.length := by unfold spoilL; simp; omega
theorem spoilL_zero (qs : FV) : spoilL qs 0 = qs := by simp [spoilL]
theorem spoilL_at {qs : FV} {k : Nat} {q : Fil × Value} (h : qs[k]? = some q) : (spoilL qs k)[k]? = some q := by
  unfold spoilL
  rw [List.getElem?_append_right (by simp), List.length_replicate, Nat.sub_self, List.getElem?_drop]; exact h
theorem spoilL_next {qs : FV} {k : Nat} (hk : k < qs.length) : (spoilL qs k).set k spoilt = spoilL qs (k + 1) := by
  unfold spoilL
  rw [List.set_append_right _ _ (by simp), List.length_replicate, Nat.sub_self, List.drop_eq_getElem_cons hk, List.set_cons_zero, List.replicate_succ', List.append_assoc]; rfl
theorem rs_head {w w0 : World} {z : Zone} {F : List Nat} {r : List Own} {qs : FV} {k : Nat} {q : Fil × Value} (hq : qs[k]? = some q) (h : Hp w0 w z F (filRs (qs.drop k) :: r)) : Hp w0 w z F (filR q :: filRs (qs.drop (k + 1)) :: r) := by
  have hk := (List.getElem?_eq_some_iff.1 hq).1
  have he := (List.getElem?_eq_some_iff.1 hq).2
  have h1 : Hp w0 w z F ((filR q :: (qs.drop (k + 1)).map filR) ++ r) := by
    have h2 := Hp.open_ h
    rw [List.drop_eq_getElem_cons hk, List.map_cons, he] at h2
    exact h2
  have h3 : Hp w0 w z F ((qs.drop (k + 1)).map filR ++ (filR q :: r)) := h1.perm (by simpa using List.perm_middle.symm)
  exact h3.close.perm (List.Perm.swap _ _ _)

end Go.Proofs.YtjcchjgkkplamaaDoor
