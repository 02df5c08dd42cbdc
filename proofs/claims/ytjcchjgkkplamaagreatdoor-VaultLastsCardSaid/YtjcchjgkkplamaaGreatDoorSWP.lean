/- The calculus of SW: pointers against nil, errors against errors, strings in order. Plain theorems. -/
import Derived.Test.YtjcchjgkkplamaaGreatDoorSWV
import Derived.Test.YtjcchjgkkplamaaGreatDoorSWS
import Derived.Sort.Walk0
set_option linter.unusedVariables false
set_option linter.unusedSimpArgs false
set_option maxRecDepth 100000
namespace Go.SW
open Go Go.RowKit
section
variable {P : Program} {n : Nat} {ops : Array Oper} {Q : Exit → Act → World → Prop} {i : Nat} {fr : Fr} {w w0 : World} {z : Zone} {F : List Nat} {os : List Own}
variable {K : Fr → World → Prop} {d : Option Tmp} {ty : TypeId} {pos : String} {aft : Array Edge} {g : Option (Nat × Bool)}
/-- A pointer, and whether it is nil. -/
def PNil (v : Value) (b : Bool) : Prop := v = .pointer none ∧ b = true ∨ ∃ a, v = .pointer (some a) ∧ b = false
def ptrT (P : Program) (t : TypeId) : Bool := match P.underlying t with | some (.pointer _) => true | _ => false
theorem run_eqp0 (k : Nat) {t D : TypeId} (hu : P.underlying t = some (.pointer D)) : (Op.equalIn (k + 1) t (.pointer none) (.pointer none)).run P w = .ok true w := by
  simp [Op.equalIn, run_underlying hu]
theorem run_eqp1 (k : Nat) {t D : TypeId} {a : Addr} (hu : P.underlying t = some (.pointer D)) : (Op.equalIn (k + 1) t (.pointer (some a)) (.pointer none)).run P w = .ok false w := by
  simp [Op.equalIn, run_underlying hu]
theorem run_pnil {t : TypeId} (ht : ptrT P t = true) {v : Value} {b : Bool} (hv : PNil v b) : (Op.equal t v (.pointer none)).run P w = .ok b w := by
  unfold ptrT at ht
  cases hu : P.underlying t with
  | none => simp [hu] at ht
  | some D =>
    cases D with
    | pointer D =>
      unfold Op.equal Op.maxDepth
      rcases hv with ⟨rfl, rfl⟩ | ⟨a, rfl, rfl⟩
      · exact run_eqp0 9999 hu
      · exact run_eqp1 9999 hu
    | _ => simp [hu] at ht
theorem rd_pnil_eql {t t2 : TypeId} {x y : Operand} (ht : ptrT P t = true) {v : Value} {b : Bool} (hx : ev fr x = v) (hy : ev fr y = .pointer none) (hv : PNil v b) : Runs P fr ⟨d, .binOp .eql t x y t2, ty, pos, aft, g⟩ (.bool b) w := by
  have hr := run_pnil (P := P) (w := w) ht hv
  have hg : (eqGuard .eql t x y v (.pointer none)).run P w = .ok () w := by rcases hv with ⟨rfl, _⟩ | ⟨a, rfl, _⟩ <;> simp [eqGuard]
  have hb : binOp .eql t v (.pointer none) = (do pure (.bool (← Op.equal t v (.pointer none)))) := by rcases hv with ⟨rfl, _⟩ | ⟨a, rfl, _⟩ <;> rfl
  unfold Runs
  simp only [execOp, hx, hy, Sem.run_bind, hg, Result.andThen_ok, hb, hr, Sem.run_pure]
theorem rd_ifi_ne {t t2 T : TypeId} {x y : Operand} {k0 k : IntKind} (ht : isIfaceT P t = true) (hT : P.underlying T = some (.int k0)) (hc : (P.info? T).map (·.comparable) = some true) {a b : Int} (hx : ev fr x = .iface T (.int k a)) (hy : ev fr y = .iface T (.int k b)) : Runs P fr ⟨d, .binOp .neq t x y t2, ty, pos, aft, g⟩ (.bool (a != b)) w := by
  have hr : (Op.equal t (.iface T (.int k a)) (.iface T (.int k b))).run P w = .ok (a == b) w := by
    unfold isIfaceT at ht
    obtain ⟨inf, h1, h2⟩ := Option.map_eq_some_iff.1 hc
    cases hu : P.underlying t with
    | none => simp [hu] at ht
    | some D =>
      cases D with
      | interface D =>
        unfold Op.equal Op.maxDepth
        rw [Op.equalIn]
        simp only [Sem.run_bind, run_underlying hu, Result.andThen_ok, ne_eq, not_true_eq_false, if_false, typeInfo]
        simp [h1, h2, run_equalIn_int (P := P) w 9998 T k k0 a b hT, Result.andThen]
      | _ => simp [hu] at ht
  have hg : (eqGuard .neq t x y (.iface T (.int k a)) (.iface T (.int k b))).run P w = .ok () w := by simp [eqGuard]
  have hb : binOp .neq t (.iface T (.int k a)) (.iface T (.int k b)) = (do pure (.bool (!(← Op.equal t (.iface T (.int k a)) (.iface T (.int k b)))))) := rfl
  unfold Runs
  simp only [execOp, hx, hy, Sem.run_bind, hg, Result.andThen_ok, hb, hr, Sem.run_pure]
  rfl
theorem rd_slss {t t2 : TypeId} {x y : Operand} (ht : P.underlying t = some .string) {l l2 : List UInt8} (hx : ev fr x = .string (bs l)) (hy : ev fr y = .string (bs l2)) : Runs P fr ⟨d, .binOp .lss t x y t2, ty, pos, aft, g⟩ (.bool (decide (l < l2))) w := by
  simp [Runs, execOp, hx, hy, eqGuard, binOp, Op.stringOp, bs_toList, Go.Proofs.bytesLess_eq, Result.andThen]
theorem rd_remI {t t2 : TypeId} {x y : Operand} {k : IntKind} {a : Int} {b : Nat} (hx : ev fr x = .int k a) (hy : ev fr y = .int k (b : Nat)) (hb : 0 < b) : Runs P fr ⟨d, .binOp .rem t x y t2, ty, pos, aft, g⟩ (.int k (Int.tmod a ((b : Nat) : Int))) w := by
  have h0 : ((b : Nat) : Int) ≠ 0 := by omega
  have hm : binOp .rem t (.int k a) (.int k ((b : Nat) : Int)) = pure (.int k (Int.tmod a ((b : Nat) : Int))) := by
    unfold binOp Op.intDiv
    simp only [ne_eq, not_true_eq_false, if_false, if_neg h0]
  unfold Runs
  simp only [execOp, hx, hy, Sem.run_bind, hm]
  simp [eqGuard, Result.andThen]
theorem st_q {o : Oper} (hi : ops[i]? = some o) (hg : guardV ops fr o = some true) (hs : (dok n o.dst && knowns fr o.op && noSel o.op) = true) {v : Value} (hr : Runs P fr o v w) (h : K (pf fr o.dst v) w) : ST P n ops Q i K fr w := st_run hi hg hs v w hr h
section
variable {S : World → Prop} {k : Nat} {listed : Array Bool}
/-- Any of several may come next. -/
theorem gd_stl (l : List Nat) (hn : l ≠ []) (hr : (Region.ready .any ops listed == l) = true) (h : ∀ i ∈ l, ST P n ops Q i (fun fr' w' => S w' ∧ GD P n ops Q S k (listed.setIfInBounds i true) fr' w') fr w) : GD P n ops Q S (k + 1) listed fr w := by
  intro a ha
  refine wpAnyH_all (beq_iff_eq.1 hr) hn fun j hj => ?_
  obtain ⟨o, ho, hw⟩ := h j hj a ha (fun a' w' => S w' ∧ wpAnyH P .any ops Q S k (listed.setIfInBounds j true) a' w') (fun fr' w' a' hf hk => ⟨hk.1, hk.2 a' hf⟩)
  unfold wpOp
  simp only [ho]
  split
  · rename_i hc; rw [if_pos hc] at hw; exact .inl hw
  · rename_i hc; rw [if_neg hc] at hw; exact hw
theorem gd_st2 (i j : Nat) (hr : (Region.ready .any ops listed == [i, j]) = true) (h1 : ST P n ops Q i (fun fr' w' => S w' ∧ GD P n ops Q S k (listed.setIfInBounds i true) fr' w') fr w) (h2 : ST P n ops Q j (fun fr' w' => S w' ∧ GD P n ops Q S k (listed.setIfInBounds j true) fr' w') fr w) : GD P n ops Q S (k + 1) listed fr w :=
  gd_stl [i, j] (by simp) hr (fun x hx => by
    simp only [List.mem_cons, List.not_mem_nil, or_false] at hx
    rcases hx with rfl | rfl
    · exact h1
    · exact h2)
theorem gd_st3 (i j l : Nat) (hr : (Region.ready .any ops listed == [i, j, l]) = true) (h1 : ST P n ops Q i (fun fr' w' => S w' ∧ GD P n ops Q S k (listed.setIfInBounds i true) fr' w') fr w) (h2 : ST P n ops Q j (fun fr' w' => S w' ∧ GD P n ops Q S k (listed.setIfInBounds j true) fr' w') fr w)
    (h3 : ST P n ops Q l (fun fr' w' => S w' ∧ GD P n ops Q S k (listed.setIfInBounds l true) fr' w') fr w) : GD P n ops Q S (k + 1) listed fr w :=
  gd_stl [i, j, l] (by simp) hr (fun x hx => by
    simp only [List.mem_cons, List.not_mem_nil, or_false] at hx
    rcases hx with rfl | rfl | rfl
    · exact h1
    · exact h2
    · exact h3)
end
theorem cv_maxI {k : IntKind} {a b : Int} : Value.int k (if b > a then b else a) = .int k (max a b) := by
  congr 1
  split <;> omega
end
end Go.SW
