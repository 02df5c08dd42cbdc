/- The calculus of SW: a string turned into bytes. Plain theorems. -/
import Derived.Test.YtjcchjgkkplamaaGreatDoorSWB
import Derived.Lib.ConvBytes
set_option linter.unusedVariables false
set_option linter.unusedSimpArgs false
set_option maxRecDepth 100000
namespace Go.SW
open Go Go.RowKit
section
variable {P : Program} {n : Nat} {ops : Array Oper} {Q : Exit → Act → World → Prop} {i : Nat} {fr : Fr} {w w0 : World} {z : Zone} {F : List Nat} {os : List Own}
variable {K : Fr → World → Prop} {d : Option Tmp} {ty : TypeId} {pos : String} {aft : Array Edge} {g : Option (Nat × Bool)}
theorem fresh_str (w : World) (e : TypeId) (l : List UInt8) : Fresh w (Lib.bytesWorld w e (bs l)) [.mkd w.heap.size e (bv l)] := by
  have hd : (bs l).data = l.toArray := rfl
  refine ⟨rfl, rfl, rfl, by rw [Lib.bytesWorld_size]; omega, fun k hk _ => Lib.bytesWorld_at_old w e _ k hk, fun a v h => by simp at h, ?_, by simp [blksOf, Own.mkd], ?_⟩
  · intro o ho
    simp only [List.mem_singleton] at ho
    subst ho
    refine ⟨_, _, Lib.bytesWorld_at_new w e (bs l), fun j u hu => ?_⟩
    have hj : j < l.length := by have := (List.getElem?_eq_some_iff.1 hu).1; simpa [bv] using this
    unfold Lib.bytesCells
    rw [hd, Array.getElem?_append_left (by simpa using hj), ← hu]
    simp [bv]
  · intro g hg
    simp only [blksOf, List.flatMap_cons, Own.mkd, List.flatMap_nil, List.append_nil, List.mem_singleton] at hg
    exact ⟨.inl (by omega), fun _ _ => rfl⟩
theorem rd_sadd {w : World} {t t2 : TypeId} {x y : Operand} (ht : P.underlying t = some .string) {l l2 : List UInt8} (hx : ev fr x = .string (bs l)) (hy : ev fr y = .string (bs l2)) (hl : l.length + l2.length ≤ 9223372036854775807) : Runs P fr ⟨d, .binOp .add t x y t2, ty, pos, aft, g⟩ (.string (bs (l ++ l2))) w := by
  have h : Value.string (bs l ++ bs l2) = .string (bs (l ++ l2)) := cv_bapp l l2
  rw [← h]
  have h2 : ¬ ((9223372036854775807 : Int) < ((bs l).size : Int) + ((bs l2).size : Int)) := by rw [bs_size, bs_size]; omega
  simp [Runs, execOp, hx, hy, eqGuard, binOp, Op.stringOp, Result.andThen, h2]
theorem st_strB {t t2 e : TypeId} {x : Operand} (hi : ops[i]? = some ⟨d, .convert t t2 x, ty, pos, aft, g⟩) (hg : guardV ops fr ⟨d, .convert t t2 x, ty, pos, aft, g⟩ = some true) (hs : (dok n d && knowns fr (.convert t t2 x) && true) = true)
    (ht : P.underlying t = some .string) (h2 : elemT P t2 = some e) (he : P.underlying e = some (.int .u8)) (hH : Hp w0 w z F os) {l : List UInt8} (hx : ev fr x = .string (bs l)) (hl : l.length ≤ maxLen)
    (h : ∀ b c w', l.length ≤ c → c ≤ maxLen → Hp w0 w' z F (os ++ [.mkd b e (bv l)]) → K (pf fr d (.slice (some ⟨b, 0, none⟩) l.length c)) w') : ST P n ops Q i K fr w := by
  have hr := Lib.run_convert_string_bytes (P := P) w t t2 e (bs l) ht (underlying_of_elem h2) he
  rw [bs_size] at hr
  refine st_run hi hg hs _ (Lib.bytesWorld w e (bs l)) ?_ (h w.heap.size (grownCap w l.length 0 e) _ (grownCap_ge w l.length 0 e) (grownCap_le_maxLen w l.length 0 e hl) (hH.call (fresh_str w e l)))
  simp [execOp, hx, hr, Result.andThen]
end
end Go.SW
