/- Gb: several texts in one. -/
import Derived.Test.YtajapgjemefoiaaGreatDoorGa
import Derived.Sort.Walk0
import Derived.Test.YtajapgjemefoiaaGreatDoorProg
import Derived.Lib.BitFns
import Derived.Lib.ItoaNum
import Derived.WalkKit
import Derived.LaidEql
import Derived.Stop.Asserts
import Derived.RowKitTokens
import Derived.Test.YtajapgjemefoiaaGreatDoorRows
import Derived.ChangeSame
import Derived.ChangeVars
import Derived.ChangeSlices
import Derived.JoinedOf
import Derived.RowKit
import Derived.Carry
import Derived.OpenShut
import Derived.LaidLaws
import Derived.LaidHandle
import Derived.Stop.Joined
import Derived.Test.YtajapgjemefoiaaGreatDoorIter
import Derived.Test.YtajapgjemefoiaaGreatDoorShelf
/- The calculus of SW: bytes at the front of a block of the call's own, under a slice whose capacity may be less than the block. Plain theorems. -/
set_option linter.unusedVariables false
set_option linter.unusedSimpArgs false
set_option maxRecDepth 100000
namespace Go.SW
open Go Go.RowKit
def vwAt (w : World) (e : TypeId) (v : Value) (l : List UInt8) : Prop :=
  v = .slice none 0 0 ∧ l = [] ∨ ∃ g cap cur, v = .slice (some ⟨g, 0, none⟩) l.length cap ∧ w.heap[g]? = some (.cells cur e (0, 0)) ∧ l.length ≤ cap ∧ cap ≤ maxLen ∧ cap ≤ cur.size ∧ cur.toList.take l.length = bv l
def Own.vw (v : Value) (e : TypeId) (l : List UInt8) : Own where
  blks := v.ownBlock.toList
  at' w := vwAt w e v l
  lt' w h g hg := by
    rcases h with ⟨rfl, _⟩ | ⟨g', cap, cur, rfl, h1, _⟩
    · simp [Value.ownBlock] at hg
    · have : g = g' := by simpa [Value.ownBlock, eq_comm] using hg
      subst this
      exact (Array.getElem?_eq_some_iff.1 h1).1
  kept' w w' h hk := by
    rcases h with h | ⟨g, cap, cur, rfl, h1, h2⟩
    · exact .inl h
    · exact .inr ⟨g, cap, cur, rfl, by rw [hk g (by simp [Value.ownBlock])]; exact h1, h2⟩
theorem vw_of_own {w : World} {e : TypeId} {v : Value} {l : List UInt8} (h : w.ownsRow 0 e 1 v l.length (bv l)) : vwAt w e v l := by
  rcases h.2 with ⟨h1, h2⟩ | ⟨g, cap, cur, h1, _, h2, h3, h4, h5, h6⟩
  · exact .inl ⟨h1, List.eq_nil_of_length_eq_zero h2⟩
  · exact .inr ⟨g, cap, cur, h1, h2, h3, h4, by omega, by simpa using h6⟩
theorem vw_row {w : World} {e : TypeId} {v : Value} {l : List UInt8} (h : vwAt w e v l) : RB w.cell? v l := by
  rcases h with ⟨rfl, rfl⟩ | ⟨g, cap, cur, rfl, h1, h2, h3, h4, h5⟩
  · exact RB.nil _
  · refine ⟨by simp [bv], some ⟨g, 0, none⟩, cap, rfl, h2, h3, fun j u hu => ⟨_, rfl, ?_⟩⟩
    rw [← h5, List.getElem?_take] at hu
    split at hu
    · have hc : cur[j]? = some u := by simpa using hu
      rw [add_blk, Nat.zero_add]
      simp [World.cell?, h1, hc]
    · cases hu
theorem vw_cut {w : World} {e : TypeId} {A : Option Addr} {n c : Nat} {l : List UInt8} (h : vwAt w e (.slice A n c) l) {k : Nat} (hk : k ≤ l.length) : vwAt w e (.slice A k k) (l.take k) := by
  have hl : (l.take k).length = k := by simp [Nat.min_eq_left hk]
  rcases h with ⟨h0, rfl⟩ | ⟨g, cap, cur, h0, h1, h2, h3, h4, h5⟩
  · cases h0
    simp only [List.length_nil, Nat.le_zero_eq] at hk
    subst hk
    exact .inl ⟨rfl, rfl⟩
  · cases h0
    refine .inr ⟨g, k, cur, by rw [hl], h1, by omega, by omega, by omega, ?_⟩
    rw [hl]
    have := congrArg (List.take k) h5
    rw [List.take_take, Nat.min_eq_left hk] at this
    rw [this]; simp [bv]
section
variable {P : Program} {n : Nat} {ops : Array Oper} {Q : Exit → Act → World → Prop} {i : Nat} {fr : Fr} {w w0 : World} {z : Zone} {F : List Nat} {os : List Own}
variable {K : Fr → World → Prop} {d : Option Tmp} {ty : TypeId} {pos : String} {aft : Array Edge} {g : Option (Nat × Bool)}
theorem Hp.vw_at (hH : Hp w0 w z F os) (k : Nat) {v : Value} {e : TypeId} {l : List UInt8} (hk : os[k]? = some (.vw v e l)) : vwAt w e v l := hH.own _ (List.mem_of_getElem? hk)
theorem Hp.vw_reads (hH : Hp w0 w z F os) (k : Nat) {v : Value} {e : TypeId} {l : List UInt8} (hk : os[k]? = some (.vw v e l)) : RB w.cell? v l := vw_row (hH.vw_at k hk)
theorem Hp.vw_form (hH : Hp w0 w z F os) (k : Nat) {v : Value} {e : TypeId} {l : List UInt8} (hk : os[k]? = some (.vw v e l)) : ∃ A c, v = .slice A l.length c ∧ l.length ≤ c ∧ c ≤ maxLen := by
  obtain ⟨A, c, h1, h2, h3⟩ := (hH.vw_reads k hk).row.form
  exact ⟨A, c, h1, h2, h3⟩
theorem Hp.to_vw {v : Value} {e : TypeId} {l : List UInt8} {r : List Own} (h : Hp w0 w z F (.row v e 1 l.length (bv l) :: r)) : Hp w0 w z F (.vw v e l :: r) := h.weak rfl vw_of_own
theorem Hp.cut_vw {A : Option Addr} {n c : Nat} {e : TypeId} {l : List UInt8} {r : List Own} (h : Hp w0 w z F (.vw (.slice A n c) e l :: r)) (k : Nat) (hk : k ≤ l.length) : Hp w0 w z F (.vw (.slice A k k) e (l.take k) :: r) :=
  h.weak (by cases A <;> rfl) (fun ha => vw_cut ha hk)
theorem cut3_front (A : Option Addr) (l c k : Nat) (m : Nat) (hk : k ≤ c) : CutOf (.slice A l c) m 0 k k (.slice A k k) := by
  refine ⟨A, l, c, rfl, Nat.zero_le _, Nat.le_refl _, hk, ?_⟩
  split
  · rfl
  · cases A with
    | none => rfl
    | some a => simp [Addr.add]
theorem run_append_vw {t e : TypeId} {tyR : TypeId} (ht : elemT P t = some e) {zv : Value} {bytes : Nat} (he : (P.info? e).map (fun i => (i.zero, i.size, i.bytes)) = some (some zv, 1, bytes)) (hzc : zv.cells.size = 1)
    {v x : Value} {l q : List UInt8} (hown : vwAt w e v l) (hR : RB w.cell? x q) (h63 : l.length + q.length ≤ maxLen) (hb : (l.length + q.length) * bytes ≤ 140737488355328) :
    ∃ v' w', (Builtin.append_ #[t, t] tyR #[v, x]).run P w = .ok v' w' ∧ vwAt w' e v' (l ++ q) ∧ w.grownBy w' v.ownBlock ∧ (v'.ownBlock = v.ownBlock ∨ v'.ownBlock = some w.heap.size) := by
  obtain ⟨inf, k1, k2, k3, k4⟩ := info_parts he
  have hR' := hR
  rcases hown with ⟨rfl, rfl⟩ | ⟨b, cap, cur, rfl, hbg, hn, hmx, hsz, htk⟩
  · have hrow : w.ownsRow 0 e 1 (.slice none 0 0) 0 [] := World.ownsRow_nil _ _ _ _
    obtain ⟨v', w', r1, r2, r3, r4⟩ := run_append_row (P := P) (tyR := tyR) ht he hzc (by decide) hrow hR.row (bv_one _) (by simpa using h63) (by simpa using hb)
    refine ⟨v', w', r1, vw_of_own ?_, r3, r4⟩
    simpa using r2
  obtain ⟨h0, A2, cap2, rfl, _, _, hc⟩ := hR.row
  rw [Nat.mul_one] at h0
  cases A2 with
  | none =>
    have hy : q = [] := hR'.none
    subst hy
    refine ⟨.slice (some ⟨b, 0, none⟩) l.length cap, w, ?_, by rw [List.append_nil]; exact .inr ⟨b, cap, cur, rfl, hbg, hn, hmx, hsz, htk⟩, World.grownBy.refl _ _, .inl rfl⟩
    simp [Builtin.append_, run_underlying (underlying_of_elem ht), sizeOf, typeInfo, k1, Builtin.lenOf, Builtin.firstCells, hn, storeCells]
  | some ad =>
    have hcc : ∀ j u, (bv q)[j]? = some u → w.cell? (ad.add j) = some u := fun j u hu => by obtain ⟨ad', e', hp⟩ := hc j u hu; cases e'; exact hp
    by_cases hroom : l.length + q.length ≤ cap
    · have hrun := run_append_room (P := P) w t tyR e inf (underlying_of_elem ht) k1 b l.length cap cur hbg ad q.length cap2 (bv q) (by rw [h0, k3, Nat.mul_one]) hcc (bv_one _) hroom (by rw [h0, k3, Nat.mul_one]; omega)
      refine ⟨_, _, hrun, .inr ⟨b, cap, _, by rw [List.length_append], setRow_heap w b cur _ e (0, 0) hbg, by rw [List.length_append]; exact hroom, hmx, ?_, ?_⟩, ⟨rfl, rfl, rfl, by simp [World.setRow], fun j hj hne => ?_⟩, .inl rfl⟩
      · have : q.length ≤ cur.size - l.length := by omega
        simp [h0, k3]
        omega
      · simp only [k3, Nat.mul_one] at *
        rw [htk]
        have hb2 : bv (l ++ q) = bv l ++ bv q := by simp [bv]
        have hl2 : (bv l ++ bv q).length = (l ++ q).length := by simp [bv]
        rw [hb2, ← hl2]
        exact List.take_left
      · have : b ≠ j := fun e' => hne (by simp [Value.ownBlock, e'])
        simp [World.setRow, Array.getElem?_modify, this]
    · have hholds : ∀ j u, (bv l)[j]? = some u → w.cell? ((⟨b, 0, none⟩ : Addr).add j) = some u := fun j u hu => by
        obtain ⟨_, A3, c3, e3, _, _, h3⟩ := (vw_row (w := w) (e := e) (.inr ⟨b, cap, cur, rfl, hbg, hn, hmx, hsz, htk⟩)).row
        cases e3
        obtain ⟨ad', e', hp⟩ := h3 j u hu
        cases e'; exact hp
      have hl1 : (bv l).length = l.length * inf.size := by rw [k3, Nat.mul_one]; simp [bv]
      have hl2 : (bv q).length = q.length * inf.size := by rw [k3, Nat.mul_one]; simp [bv]
      have hrun := run_append_grow (P := P) w t tyR e inf zv (underlying_of_elem ht) k1 k2 ⟨b, 0, none⟩ l.length cap (bv l) hl1 hholds ad q.length cap2 (bv q) hl2 hcc (by omega) (by simp only [maxLen] at h63; omega) (growslice_fits (by omega) (by rw [k4]; exact hb))
      have hge := grownCap_ge w (l.length + q.length) cap e
      have hle := grownCap_le_maxLen w (l.length + q.length) cap e h63
      have hlen : (bv l ++ bv q).length = l.length + q.length := by simp [bv]
      refine ⟨_, _, hrun, .inr ⟨w.heap.size, _, _, by rw [List.length_append], heap_alloc_new w.drew _, by rw [List.length_append]; exact hge, hle, ?_, ?_⟩, ⟨rfl, rfl, rfl, by simp, fun k hk _ => Below.heap_alloc w.drew _ k hk⟩, .inr rfl⟩
      · simp only [Array.size_append, List.size_toArray, size_zeroCells, hzc, hl1, hl2, k3]
        omega
      · have hb2 : bv (l ++ q) = bv l ++ bv q := by simp [bv]
        rw [hb2, List.length_append, ← hlen]
        simp only [Array.toList_append, List.append_assoc]
        rw [← List.append_assoc]
        exact List.take_left
theorem st_appV {t e : TypeId} {x y : Operand} (k : Nat) (hi : ops[i]? = some ⟨d, .call ⟨.builtin .append, #[x, y], #[t, t]⟩, ty, pos, aft, g⟩) (hg : guardV ops fr ⟨d, .call ⟨.builtin .append, #[x, y], #[t, t]⟩, ty, pos, aft, g⟩ = some true) (hs : (dok n d && knowns fr (.call ⟨.builtin .append, #[x, y], #[t, t]⟩) && true) = true)
    (ht : elemT P t = some e) {zv : Value} {bytes : Nat} (he : (P.info? e).map (fun i => (i.zero, i.size, i.bytes)) = some (some zv, 1, bytes)) (hzc : zv.cells.size = 1) (hH : Hp w0 w z F os)
    {v u : Value} {l q : List UInt8} (hx : ev fr x = v) (hk : os[k]? = some (.vw v e l)) (hy : ev fr y = u) (hR : RB w.cell? u q) (h63 : l.length + q.length ≤ maxLen) (hb : (l.length + q.length) * bytes ≤ 140737488355328)
    (h : ∀ v' w', Hp w0 w' z F (os.set k (.vw v' e (l ++ q))) → K (pf fr d v') w') : ST P n ops Q i K fr w := by
  have hr := hH.vw_at k hk
  obtain ⟨v', w', r1, r2, r3, r4⟩ := run_append_vw (P := P) (tyR := ty) ht he hzc hr hR h63 hb
  refine st_run hi hg hs v' w' ?_ (h v' w' ?_)
  · simp [execOp, resolve, invoke, builtin, hx, hy, r1, Result.andThen]
  · refine hH.turn k hk v.ownBlock (fun b hb => by simp [Own.vw, hb]) r3 r2 (fun b hb => ?_) (by simp only [Own.vw]; cases v'.ownBlock <;> simp)
    simp only [Own.vw, Option.mem_toList] at hb ⊢
    rcases r4 with r4 | r4
    · exact .inl (r4 ▸ hb)
    · rw [r4] at hb; cases hb; exact .inr (Nat.le_refl _)
end
end Go.SW
/- The calculus of SW: pointers against nil, errors against errors, strings in order. Plain theorems. -/
set_option linter.unusedVariables false
set_option linter.unusedSimpArgs false
set_option maxRecDepth 100000
namespace Go.SW
open Go Go.RowKit
section
variable {P : Program} {n : Nat} {ops : Array Oper} {Q : Exit → Act → World → Prop} {i : Nat} {fr : Fr} {w w0 : World} {z : Zone} {F : List Nat} {os : List Own}
variable {K : Fr → World → Prop} {d : Option Tmp} {ty : TypeId} {pos : String} {aft : Array Edge} {g : Option (Nat × Bool)}
def PNil (v : Value) (b : Bool) : Prop := v = .pointer none ∧ b = true ∨ ∃ a, v = .pointer (some a) ∧ b = false
def ptrT (P : Program) (t : TypeId) : Bool := match P.underlying t with | some (.pointer _) => true | _ => false
theorem run_eqp0 (k : Nat) {t D : TypeId} (hu : P.underlying t = some (.pointer D)) : (Op.equalIn (k + 1) t (.pointer none) (.pointer none)).run P w = .ok true w := by
  simp [Op.equalIn, run_underlying hu]
theorem run_eqp1 (k : Nat) {t D : TypeId} {a : Addr} (hu : P.underlying t = some (.pointer D)) : (Op.equalIn (k + 1) t (.pointer (some a)) (.pointer none)).run P w = .ok false w := by
  simp [Op.equalIn, run_underlying hu]
theorem run_pnil {t : TypeId} (ht : ptrT P t = true) {v : Value} {b : Bool} (hv : PNil v b) : (Op.equal t v (.pointer none)).run P w = .ok b w := by
  unfold ptrT at ht
  cases hu : P.underlying t with
  | none => simp [hu] at ht
  | some D =>
    cases D with
    | pointer D =>
      unfold Op.equal Op.maxDepth
      rcases hv with ⟨rfl, rfl⟩ | ⟨a, rfl, rfl⟩
      · exact run_eqp0 9999 hu
      · exact run_eqp1 9999 hu
    | _ => simp [hu] at ht
theorem rd_pnil_eql {t t2 : TypeId} {x y : Operand} (ht : ptrT P t = true) {v : Value} {b : Bool} (hx : ev fr x = v) (hy : ev fr y = .pointer none) (hv : PNil v b) : Runs P fr ⟨d, .binOp .eql t x y t2, ty, pos, aft, g⟩ (.bool b) w := by
  have hr := run_pnil (P := P) (w := w) ht hv
  have hg : (eqGuard .eql t x y v (.pointer none)).run P w = .ok () w := by rcases hv with ⟨rfl, _⟩ | ⟨a, rfl, _⟩ <;> simp [eqGuard]
  have hb : binOp .eql t v (.pointer none) = (do pure (.bool (← Op.equal t v (.pointer none)))) := by rcases hv with ⟨rfl, _⟩ | ⟨a, rfl, _⟩ <;> rfl
  unfold Runs
  simp only [execOp, hx, hy, Sem.run_bind, hg, Result.andThen_ok, hb, hr, Sem.run_pure]
theorem rd_ifi_ne {t t2 T : TypeId} {x y : Operand} {k0 k : IntKind} (ht : isIfaceT P t = true) (hT : P.underlying T = some (.int k0)) (hc : (P.info? T).map (·.comparable) = some true) {a b : Int} (hx : ev fr x = .iface T (.int k a)) (hy : ev fr y = .iface T (.int k b)) : Runs P fr ⟨d, .binOp .neq t x y t2, ty, pos, aft, g⟩ (.bool (a != b)) w := by
  have hr : (Op.equal t (.iface T (.int k a)) (.iface T (.int k b))).run P w = .ok (a == b) w := by
    unfold isIfaceT at ht
    obtain ⟨inf, h1, h2⟩ := Option.map_eq_some_iff.1 hc
    cases hu : P.underlying t with
    | none => simp [hu] at ht
    | some D =>
      cases D with
      | interface D =>
        unfold Op.equal Op.maxDepth
        rw [Op.equalIn]
        simp only [Sem.run_bind, run_underlying hu, Result.andThen_ok, ne_eq, not_true_eq_false, if_false, typeInfo]
        simp [h1, h2, run_equalIn_int (P := P) w 9998 T k k0 a b hT, Result.andThen]
      | _ => simp [hu] at ht
  have hg : (eqGuard .neq t x y (.iface T (.int k a)) (.iface T (.int k b))).run P w = .ok () w := by simp [eqGuard]
  have hb : binOp .neq t (.iface T (.int k a)) (.iface T (.int k b)) = (do pure (.bool (!(← Op.equal t (.iface T (.int k a)) (.iface T (.int k b)))))) := rfl
  unfold Runs
  simp only [execOp, hx, hy, Sem.run_bind, hg, Result.andThen_ok, hb, hr, Sem.run_pure]
  rfl
theorem rd_slss {t t2 : TypeId} {x y : Operand} (ht : P.underlying t = some .string) {l l2 : List UInt8} (hx : ev fr x = .string (bs l)) (hy : ev fr y = .string (bs l2)) : Runs P fr ⟨d, .binOp .lss t x y t2, ty, pos, aft, g⟩ (.bool (decide (l < l2))) w := by
  simp [Runs, execOp, hx, hy, eqGuard, binOp, Op.stringOp, bs_toList, Go.Proofs.bytesLess_eq, Result.andThen]
theorem rd_remI {t t2 : TypeId} {x y : Operand} {k : IntKind} {a : Int} {b : Nat} (hx : ev fr x = .int k a) (hy : ev fr y = .int k (b : Nat)) (hb : 0 < b) : Runs P fr ⟨d, .binOp .rem t x y t2, ty, pos, aft, g⟩ (.int k (Int.tmod a ((b : Nat) : Int))) w := by
  have h0 : ((b : Nat) : Int) ≠ 0 := by omega
  have hm : binOp .rem t (.int k a) (.int k ((b : Nat) : Int)) = pure (.int k (Int.tmod a ((b : Nat) : Int))) := by
    unfold binOp Op.intDiv
    simp only [ne_eq, not_true_eq_false, if_false, if_neg h0]
  unfold Runs
  simp only [execOp, hx, hy, Sem.run_bind, hm]
  simp [eqGuard, Result.andThen]
theorem st_q {o : Oper} (hi : ops[i]? = some o) (hg : guardV ops fr o = some true) (hs : (dok n o.dst && knowns fr o.op && noSel o.op) = true) {v : Value} (hr : Runs P fr o v w) (h : K (pf fr o.dst v) w) : ST P n ops Q i K fr w := st_run hi hg hs v w hr h
section
variable {S : World → Prop} {k : Nat} {listed : Array Bool}
theorem gd_stl (l : List Nat) (hn : l ≠ []) (hr : (Region.ready .any ops listed == l) = true) (h : ∀ i ∈ l, ST P n ops Q i (fun fr' w' => S w' ∧ GD P n ops Q S k (listed.setIfInBounds i true) fr' w') fr w) : GD P n ops Q S (k + 1) listed fr w := by
  intro a ha
  refine wpAnyH_all (beq_iff_eq.1 hr) hn fun j hj => ?_
  obtain ⟨o, ho, hw⟩ := h j hj a ha (fun a' w' => S w' ∧ wpAnyH P .any ops Q S k (listed.setIfInBounds j true) a' w') (fun fr' w' a' hf hk => ⟨hk.1, hk.2 a' hf⟩)
  unfold wpOp
  simp only [ho]
  split
  · rename_i hc; rw [if_pos hc] at hw; exact .inl hw
  · rename_i hc; rw [if_neg hc] at hw; exact hw
theorem gd_st2 (i j : Nat) (hr : (Region.ready .any ops listed == [i, j]) = true) (h1 : ST P n ops Q i (fun fr' w' => S w' ∧ GD P n ops Q S k (listed.setIfInBounds i true) fr' w') fr w) (h2 : ST P n ops Q j (fun fr' w' => S w' ∧ GD P n ops Q S k (listed.setIfInBounds j true) fr' w') fr w) : GD P n ops Q S (k + 1) listed fr w :=
  gd_stl [i, j] (by simp) hr (fun x hx => by
    simp only [List.mem_cons, List.not_mem_nil, or_false] at hx
    rcases hx with rfl | rfl
    · exact h1
    · exact h2)
theorem gd_st3 (i j l : Nat) (hr : (Region.ready .any ops listed == [i, j, l]) = true) (h1 : ST P n ops Q i (fun fr' w' => S w' ∧ GD P n ops Q S k (listed.setIfInBounds i true) fr' w') fr w) (h2 : ST P n ops Q j (fun fr' w' => S w' ∧ GD P n ops Q S k (listed.setIfInBounds j true) fr' w') fr w)
    (h3 : ST P n ops Q l (fun fr' w' => S w' ∧ GD P n ops Q S k (listed.setIfInBounds l true) fr' w') fr w) : GD P n ops Q S (k + 1) listed fr w :=
  gd_stl [i, j, l] (by simp) hr (fun x hx => by
    simp only [List.mem_cons, List.not_mem_nil, or_false] at hx
    rcases hx with rfl | rfl | rfl
    · exact h1
    · exact h2
    · exact h3)
end
end
end Go.SW
/- Rows of several cells an element, told element by element. Plain theorems. -/
set_option linter.unusedVariables false
namespace Go.SW
open Go Go.RowKit
theorem flat_get {α : Type} : ∀ (L : List (List α)) (m : Nat), (∀ c ∈ L, c.length = m) → ∀ (i q : Nat) (c : List α), L[i]? = some c → q < m → L.flatten[i * m + q]? = c[q]?
  | [], m, _, i, q, c, h, _ => by simp at h
  | d :: L, m, hL, 0, q, c, h, hq => by
    simp only [List.getElem?_cons_zero, Option.some.injEq] at h
    subst h
    rw [List.flatten_cons, List.getElem?_append_left (by rw [hL d List.mem_cons_self]; omega), Nat.zero_mul, Nat.zero_add]
  | d :: L, m, hL, i + 1, q, c, h, hq => by
    rw [List.getElem?_cons_succ] at h
    have hd : d.length = m := hL d List.mem_cons_self
    have e : (i + 1) * m = i * m + m := Nat.succ_mul i m
    rw [List.flatten_cons, List.getElem?_append_right (by omega), show (i + 1) * m + q - d.length = i * m + q by omega]
    exact flat_get L m (fun c hc => hL c (List.mem_cons_of_mem _ hc)) i q c h hq
theorem flat_len {α : Type} : ∀ (L : List (List α)) (m : Nat), (∀ c ∈ L, c.length = m) → L.flatten.length = L.length * m
  | [], m, _ => by simp
  | d :: L, m, hL => by
    rw [List.flatten_cons, List.length_append, hL d List.mem_cons_self, flat_len L m (fun c hc => hL c (List.mem_cons_of_mem _ hc)), List.length_cons, Nat.succ_mul]; omega
def rowC {β : Type} (f : β → List Value) (xs : List β) : List Value := (xs.map f).flatten
theorem rowC_at {β : Type} {f : β → List Value} {m : Nat} (hf : ∀ x, (f x).length = m) {xs : List β} {k : Nat} {x : β} (hk : xs[k]? = some x) (q : Nat) (hq : q < m) {u : Value} (hu : (f x)[q]? = some u) : (rowC f xs)[k * m + q]? = some u := by
  rw [← hu]
  exact flat_get (xs.map f) m (by simp [hf]) k q (f x) (by simp [hk]) hq
theorem rowC_all {β : Type} {f : β → List Value} {m : Nat} (hf : ∀ x, (f x).length = m) {xs : List β} {k : Nat} {x : β} (hk : xs[k]? = some x) (q : Nat) (cs : List Value) (hc : ((f x).drop q).take cs.length = cs) : ∀ i u, cs[i]? = some u → q + i < m ∧ (rowC f xs)[k * m + (q + i)]? = some u := by
  intro i u hi
  have hil : i < cs.length := (List.getElem?_eq_some_iff.1 hi).1
  have h : (f x)[q + i]? = some u := by
    rw [← hc, List.getElem?_take, if_pos hil, List.getElem?_drop] at hi
    exact hi
  have hl : q + i < m := by
    have := (List.getElem?_eq_some_iff.1 h).1
    rwa [hf] at this
  exact ⟨hl, rowC_at hf hk _ hl h⟩
theorem rowC_take {β : Type} {f : β → List Value} {m : Nat} (hf : ∀ x, (f x).length = m) : ∀ (xs : List β) (k : Nat), (rowC f xs).take (k * m) = rowC f (xs.take k)
  | [], k => by simp [rowC]
  | x :: xs, 0 => by simp [rowC]
  | x :: xs, k + 1 => by
    have ih := rowC_take hf xs k
    unfold rowC at ih ⊢
    rw [List.map_cons, List.flatten_cons, List.take_succ_cons, List.map_cons, List.flatten_cons, Nat.succ_mul, List.take_append, List.take_of_length_le (by rw [hf]; omega), hf, Nat.add_sub_cancel, ih]
theorem rowC_drop {β : Type} {f : β → List Value} {m : Nat} (hf : ∀ x, (f x).length = m) : ∀ (xs : List β) (k : Nat), (rowC f xs).drop (k * m) = rowC f (xs.drop k)
  | [], k => by simp [rowC]
  | x :: xs, 0 => by simp [rowC]
  | x :: xs, k + 1 => by
    have ih := rowC_drop hf xs k
    unfold rowC at ih ⊢
    rw [List.map_cons, List.flatten_cons, List.drop_succ_cons, Nat.succ_mul, List.drop_append, List.drop_of_length_le (by rw [hf]; omega), hf, Nat.add_sub_cancel, ih, List.nil_append]
theorem rowC_app {β : Type} (f : β → List Value) (xs ys : List β) : rowC f xs ++ rowC f ys = rowC f (xs ++ ys) := by simp [rowC]
theorem rowC_one {β : Type} (f : β → List Value) (x : β) : rowC f [x] = f x := by simp [rowC]
theorem rowC_len {β : Type} {f : β → List Value} {m : Nat} (hf : ∀ x, (f x).length = m) (xs : List β) : (rowC f xs).length = xs.length * m := by
  unfold rowC
  rw [flat_len _ m (by simp [hf]), List.length_map]
theorem rowC_set {β : Type} {f : β → List Value} {m : Nat} (hf : ∀ x, (f x).length = m) {xs : List β} {k : Nat} {x : β} (hk : k < xs.length) : (rowC f xs).take (k * m) ++ f x ++ (rowC f xs).drop (k * m + (f x).length) = rowC f (xs.set k x) := by
  have e : k * m + (f x).length = (k + 1) * m := by rw [hf, Nat.succ_mul]
  rw [e, rowC_take hf, rowC_drop hf, ← rowC_one f x, rowC_app, rowC_app, List.set_eq_take_append_cons_drop, if_pos hk, List.append_assoc]
  rfl
theorem rowC_allO {β : Type} {f : β → List Value} {m : Nat} (hf : ∀ x, (f x).length = m) {xs : List β} {k : Nat} {x : β} (hk : xs[k]? = some x) (cs : List Value) (hc : (f x).take cs.length = cs) : ∀ i u, cs[i]? = some u → (rowC f xs)[k * m + i]? = some u := fun i u hi => by
  have h := (rowC_all hf hk 0 cs (by rw [List.drop_zero]; exact hc) i u hi).2
  rwa [Nat.zero_add] at h
section
variable {P : Program} {n : Nat} {ops : Array Oper} {Q : Exit → Act → World → Prop} {i : Nat} {fr : Fr} {w w0 : World} {z : Zone} {F : List Nat} {os : List Own}
variable {K : Fr → World → Prop} {d : Option Tmp} {ty : TypeId} {pos : String} {aft : Array Edge} {g : Option (Nat × Bool)}
theorem st_storeOA {t : TypeId} {x y : Operand} (k : Nat) (hi : ops[i]? = some ⟨d, .store t x y, ty, pos, aft, g⟩) (hg : guardV ops fr ⟨d, .store t x y, ty, pos, aft, g⟩ = some true) (hs : (dok n d && knowns fr (.store t x y) && true) = true)
    (hH : Hp w0 w z F os) {b o : Nat} (hx : ev fr x = .pointer (some ⟨b, o, none⟩)) {vs : List Value} (hy : (ev fr y).cells = vs.toArray) (hv : (vs.all Value.oneCell') = true) (hz : sizeT P t = some vs.length) {v : Value} {e : TypeId} {m l : Nat} {xs : List Value} (hk : os[k]? = some (.row v e m l xs)) (hb : v.ownBlock = some b) (ho : o + vs.length ≤ xs.length)
    (h : ∀ w', Hp w0 w' z F (os.set k (.row v e m l (xs.take o ++ vs ++ xs.drop (o + vs.length)))) → K (pf fr d undef) w') : ST P n ops Q i K fr w := by
  have hr := hH.row_at k hk
  rcases hr.2 with ⟨rfl, rfl⟩ | ⟨b', cap, cur, rfl, hbb, hheap, hn, hmx, hsz, htk⟩
  · simp [Value.ownBlock] at hb
  · have hb' : b' = b := by simpa [Value.ownBlock] using hb
    subst hb'
    have hl := hr.1
    have hxc : xs.length ≤ cur.size := by rw [← htk]; simp; omega
    have hrun := run_storeCells_at P b' o e vs 0 cur w hheap (by omega) (by simpa [List.all_eq_true] using hv)
    refine st_run0 hi hg hs (w.setRow b' (cur.toList.take (o + 0) ++ vs ++ cur.toList.drop (o + 0 + vs.length)).toArray) ?_ (h _ ?_)
    · simp [execOp, hx, Instr.storeAt, Instr.sureAddr, storeVar, run_sizeOf_of hz, hy, hrun, Result.andThen]
    · refine hH.turn k hk (some b') (fun g e => by cases e; simp [Own.row, Value.ownBlock]) ⟨rfl, rfl, rfl, by simp [World.setRow], fun j _ hj => ?_⟩ ⟨?_, .inr ⟨b', cap, _, rfl, hbb, setRow_heap w b' cur _ e (0, 0) hheap, hn, hmx, ?_, ?_⟩⟩ (fun g hg => .inl hg) (by simp [Own.row, Value.ownBlock])
      · have : b' ≠ j := fun e => hj (by rw [e])
        simp [World.setRow, Array.getElem?_modify, this]
      · simp; omega
      · simp; omega
      · simp only [Nat.add_zero]
        have hx2 : xs = cur.toList.take (l * m) := htk.symm
        apply List.ext_getElem?
        intro j
        rw [List.getElem?_take]
        by_cases hj : j < l * m
        · rw [if_pos hj]
          simp only [List.getElem?_append, List.length_append, List.length_take, List.getElem?_take, List.getElem?_drop, Array.length_toList, List.toList_toArray]
          have e1 : min o cur.size = o := by omega
          have e2 : min o xs.length = o := by omega
          rw [e1, e2]
          by_cases h1 : j < o + vs.length
          · rw [if_pos h1, if_pos h1]
            by_cases h2 : j < o
            · rw [if_pos h2, if_pos h2, if_pos h2, if_pos h2, hx2, List.getElem?_take, if_pos hj]
            · rw [if_neg h2, if_neg h2]
          · rw [if_neg h1, if_neg h1, hx2, List.getElem?_take, if_pos (by omega)]
        · rw [if_neg hj, List.getElem?_eq_none]
          simp; omega
end
end Go.SW
/- The calculus of SW: rows of the call's own, read beside a call that turns others. Plain theorems. -/
set_option linter.unusedVariables false
set_option linter.unusedSimpArgs false
set_option maxRecDepth 100000
namespace Go.SW
open Go Go.RowKit
section
variable {w w0 : World} {z : Zone} {F : List Nat} {mine os : List Own}
theorem zoff_res (hH : Hp w0 w z F (mine ++ os)) {o : Own} (ho : o ∈ os) {A : Option Addr} {l c m n : Nat} {xs : List Value} (hr : Row w.cell? (.slice A l c) m n xs) (hb : ∀ ad, A = some ad → ad.block ∈ o.blks) : Row (off w (blksOf mine)) (.slice A l c) m n xs := by
  obtain ⟨h0, A', cap, e, h1, h2, h3⟩ := hr
  cases e
  refine ⟨h0, A, c, rfl, h1, h2, fun j u hu => ?_⟩
  obtain ⟨ad, rfl, hc⟩ := h3 j u hu
  refine ⟨ad, rfl, ?_⟩
  have hblk : (ad.add j).block = ad.block := by unfold Addr.add; split <;> rfl
  have hn := hH.nodup
  rw [blksOf_append] at hn
  have hnot : ad.block ∉ blksOf mine := fun hm => (List.nodup_append.1 hn).2.2 _ hm _ (List.mem_flatMap.2 ⟨o, ho, hb ad rfl⟩) rfl
  unfold off
  rw [if_neg (by rw [hblk]; exact hnot)]
  exact hc
theorem zoff_row (hH : Hp w0 w z F (mine ++ os)) (k : Nat) {v : Value} {e : TypeId} {m n : Nat} {xs : List Value} (hk : os[k]? = some (.row v e m n xs)) : Row (off w (blksOf mine)) v m n xs := by
  have hm := List.mem_of_getElem? hk
  have hr : w.ownsRow 0 e m v n xs := hH.own _ (List.mem_append_right _ hm)
  obtain ⟨A, c, rfl, _⟩ := (Row.of_own hr).form
  refine zoff_res hH hm (Row.of_own hr) (fun ad e2 => ?_)
  subst e2
  rcases hr.2 with ⟨hv, _⟩ | ⟨g, cap', cur, hv, _⟩
  · cases hv
  · cases hv; simp [Own.row, Value.ownBlock]
theorem zoff_mkd (hH : Hp w0 w z F (mine ++ os)) (k : Nat) {b : Nat} {e : TypeId} {xs : List Value} (hk : os[k]? = some (.mkd b e xs)) {l cap : Nat} (hl : xs.length = l) (hc : l ≤ cap) (hm : cap ≤ maxLen) : Row (off w (blksOf mine)) (.slice (some ⟨b, 0, none⟩) l cap) 1 l xs := by
  have hmem := List.mem_of_getElem? hk
  have hk2 : (mine ++ os)[mine.length + k]? = some (.mkd b e xs) := by rw [List.getElem?_append_right (by omega), Nat.add_sub_cancel_left]; exact hk
  exact zoff_res hH hmem (mkd_row hH _ hk2 hl hc hm) (fun ad e2 => by cases e2; simp [Own.mkd])
end
end Go.SW
/- Errors by their numbers. -/
namespace Go.Proofs.YtajapgjemefoiaaGreatDoor
open Go.SW
abbrev errV (e : Nat) : Value := errW 38 e
end Go.Proofs.YtajapgjemefoiaaGreatDoor
/- Rows of whole numbers, as cells. Plain theorems. -/
namespace Go.Proofs.YtajapgjemefoiaaGreatDoor
open Go.SW
def iv (zs : List Int) : List Value := zs.map fun z => .int .i64 z
end Go.Proofs.YtajapgjemefoiaaGreatDoor
/- Layer 1 (wire): numbers in bytes. Plain mathematics. -/
set_option linter.unusedVariables false
namespace Go.Proofs.YtajapgjemefoiaaGreatDoor
open Go.SW
def dig (n : Nat) : Nat → List UInt8
  | 0 => []
  | k + 1 => dig (n / 256) k ++ [UInt8.ofNat n]
def numLen (n : Nat) : Nat := (Lib.bitLen n + 7) / 8
def numB (n : Nat) : List UInt8 := UInt8.ofNat (numLen n) :: dig n (numLen n)
theorem dig_length (n k : Nat) : (dig n k).length = k := by
  induction k generalizing n with
  | zero => rfl
  | succ k ih => simp [dig, ih]
theorem numB_length (n : Nat) : (numB n).length = numLen n + 1 := by simp [numB, dig_length]
def numAt (n k i : Nat) : List UInt8 := UInt8.ofNat k :: (List.replicate i 0 ++ (dig n k).drop i)
theorem numAt_length (n k i : Nat) (h : i ≤ k) : (numAt n k i).length = k + 1 := by simp [numAt, dig_length]; omega
theorem dig_get : ∀ (k n j : Nat) (h : j < (dig n k).length), (dig n k)[j] = UInt8.ofNat (n / 256 ^ (k - 1 - j)) := by
  intro k
  induction k with
  | zero => intro n j h; simp [dig] at h
  | succ k ih =>
    intro n j h
    simp only [dig]
    by_cases hj : j < k
    · rw [List.getElem_append_left (by rw [dig_length]; exact hj), ih (n / 256) j (by rw [dig_length]; exact hj), Nat.div_div_eq_div_mul, ← Nat.pow_succ', Nat.succ_eq_add_one]
      rw [show k - 1 - j + 1 = k + 1 - 1 - j from by omega]
    · have : j = k := by simp [dig_length] at h; omega
      subst this
      simp [dig_length]
theorem numAt_step (n k i : Nat) (h0 : 0 < i) (h : i ≤ k) : (numAt n k i).set i (UInt8.ofNat (n / 256 ^ (k - i))) = numAt n k (i - 1) := by
  obtain ⟨j, rfl⟩ : ∃ j, i = j + 1 := ⟨i - 1, by omega⟩
  simp only [numAt, List.set_cons_succ, Nat.add_sub_cancel]
  congr 1
  rw [List.set_append_left _ _ (by simp)]
  rw [List.replicate_succ', List.set_append_right _ _ (by simp)]
  simp only [List.length_replicate, Nat.sub_self, List.set_cons_zero, List.append_assoc, List.singleton_append]
  congr 1
  rw [List.drop_eq_getElem_cons (i := j) (by rw [dig_length]; omega), dig_get]
  rw [show k - 1 - j = k - (j + 1) from by omega]
theorem num_start (n k : Nat) (hk : k ≤ 8) : (List.replicate (1 + k) (Value.int .u8 0)).set (0 * 1) (.int .u8 ((k : Nat) : Int)) = bv (numAt n k k) := by
  have h1 : (UInt8.ofNat k).toNat = k := by rw [UInt8.toNat_ofNat']; omega
  rw [bv_zeros, Nat.add_comm 1 k, List.replicate_succ, Nat.zero_mul]
  have e : Value.int .u8 ((k : Nat) : Int) = .int .u8 (((UInt8.ofNat k).toNat : Nat) : Int) := by rw [h1]
  rw [e, bv_set]
  simp [numAt, List.drop_of_length_le (Nat.le_of_eq (dig_length n k))]
theorem num_end (n : Nat) : numAt n (numLen n) 0 = numB n := by simp [numAt, numB]
def beVal (l : List UInt8) : Nat := l.foldl (fun n c => n * 256 + c.toNat) 0
theorem beVal_snoc (l : List UInt8) (c : UInt8) : beVal (l ++ [c]) = beVal l * 256 + c.toNat := by simp [beVal]
theorem foldl_lt (l : List UInt8) : ∀ n : Nat, l.foldl (fun n c => n * 256 + c.toNat) n < (n + 1) * 256 ^ l.length := by
  induction l with
  | nil => intro n; simp
  | cons c l ih =>
    intro n
    have h1 := ih (n * 256 + c.toNat)
    have h2 := UInt8.toNat_lt c
    simp only [List.foldl_cons, List.length_cons]
    refine Nat.lt_of_lt_of_le h1 ?_
    rw [Nat.pow_succ, Nat.mul_comm (256 ^ l.length) 256, ← Nat.mul_assoc]
    exact Nat.mul_le_mul_right _ (by omega)
theorem beVal_lt (l : List UInt8) : beVal l < 256 ^ l.length := by have := foldl_lt l 0; simpa [beVal] using this
theorem beVal_cons_lt (c : UInt8) (l : List UInt8) : beVal (c :: l) < (c.toNat + 1) * 256 ^ l.length := by have := foldl_lt l c.toNat; simpa [beVal] using this
def takeNum (b : List UInt8) : Nat × Nat × Nat :=
  if b.length = 0 then (0, 0, 3) else
  if 8 < gb b 0 then (0, 0, 4) else
  if b.length ≤ gb b 0 then (0, 0, 3) else
  if gb b 0 = 8 ∧ 127 < gb b 1 then (0, 0, 4) else
  if 0 < gb b 0 ∧ gb b 1 = 0 then (0, 0, 4) else
  (beVal ((b.drop 1).take (gb b 0)), 1 + gb b 0, 0)
theorem take_snoc (b : List UInt8) (j : Nat) (h : j + 1 < b.length) : (b.drop 1).take (j + 1) = (b.drop 1).take j ++ [b.getD (j + 1) 0] := by
  rw [List.take_succ_eq_append_getElem (by rw [List.length_drop]; omega)]
  simp [List.getD_eq_getElem?_getD, h, Nat.add_comm]
theorem tn_bound (b : List UInt8) (k j : Nat) (hj : j < k) (hk : k ≤ 8) (h8 : k = 8 → gb b 1 ≤ 127) (hb : k < b.length) : beVal ((b.drop 1).take j) * 256 + 255 < 9223372036854775808 := by
  have hl : ((b.drop 1).take j).length = j := by rw [List.length_take, List.length_drop]; omega
  by_cases h6 : j ≤ 6
  · have h1 := beVal_lt ((b.drop 1).take j)
    rw [hl] at h1
    have h2 : 256 ^ j ≤ 256 ^ 6 := Nat.pow_le_pow_right (by omega) h6
    omega
  · obtain rfl : j = 7 := by omega
    obtain ⟨c, d, l, rfl⟩ : ∃ c d l, b = c :: d :: l := by
      match b, hb with
      | c :: d :: l, _ => exact ⟨c, d, l, rfl⟩
      | [c], hb => simp at hb; omega
      | [], hb => simp at hb
    have h1 := beVal_cons_lt d (l.take 6)
    have h2 : d.toNat ≤ 127 := by have := h8 (by omega); simpa [gb] using this
    have h3 : (l.take 6).length = 6 := by simp at hb; simp; omega
    rw [h3] at h1
    simp only [List.drop_succ_cons, List.drop_zero, List.take_succ_cons]
    omega
def blobB (p : List UInt8) : List UInt8 := if 65536 < p.length then [] else numB p.length ++ p
def takeBlob (b : List UInt8) : List UInt8 × Nat × Nat :=
  if (takeNum b).2.2 ≠ 0 then ([], 0, (takeNum b).2.2) else
  if 65536 < (takeNum b).1 then ([], 0, 2) else
  if b.length - (takeNum b).2.1 < (takeNum b).1 then ([], 0, 3) else
  ((b.drop (takeNum b).2.1).take (takeNum b).1, (takeNum b).2.1 + (takeNum b).1, 0)
theorem takeNum_used (b : List UInt8) : (takeNum b).2.1 ≤ b.length ∧ (takeNum b).2.1 ≤ 9 ∧ ((takeNum b).2.2 = 0 → 1 ≤ (takeNum b).2.1) := by
  unfold takeNum
  split
  · exact ⟨by simp, by simp, by simp⟩
  split
  · exact ⟨by simp, by simp, by simp⟩
  split
  · exact ⟨by simp, by simp, by simp⟩
  split
  · exact ⟨by simp, by simp, by simp⟩
  split
  · exact ⟨by simp, by simp, by simp⟩
  · refine ⟨?_, ?_, ?_⟩ <;> simp only <;> omega
theorem bitLenAux_le : ∀ (f x : Nat), Lib.bitLenAux f x ≤ f := by
  intro f
  induction f with
  | zero => intro x; simp [Lib.bitLenAux]
  | succ f ih => intro x; unfold Lib.bitLenAux; split <;> (try (have := ih (x / 2); omega)) <;> omega
theorem bitLen_le (x : Nat) (_h : x < 9223372036854775808) : Lib.bitLen x ≤ 64 := bitLenAux_le 64 x
theorem numB_le (n : Nat) : (numB n).length ≤ 9 := by have := bitLenAux_le 64 n; have : Lib.bitLen n ≤ 64 := this; rw [numB_length]; unfold numLen; omega
def msk (v : Nat) : Nat := if v % 2 = 1 then 2197175160 else 0
def step1 (v : Nat) : Nat := v / 2 ^^^ msk v
def stepN : Nat → Nat → Nat
  | 0, v => v
  | k + 1, v => step1 (stepN k v)
def tab (i : Nat) : Nat := stepN 4 i
def nib (s : Nat) : Nat := s / 16 ^^^ tab (s % 16)
def crc0 (l : List UInt8) : Nat := l.foldl (fun s c => nib (nib (s ^^^ c.toNat))) 4294967295
def crc (l : List UInt8) : Nat := 4294967295 ^^^ crc0 l
theorem msk_lt (v : Nat) : msk v < 4294967296 := by unfold msk; split <;> omega
theorem step1_lt {v : Nat} (h : v < 4294967296) : step1 v < 4294967296 := Nat.xor_lt_two_pow (n := 32) (by omega) (msk_lt v)
theorem stepN_lt (k : Nat) {v : Nat} (h : v < 4294967296) : stepN k v < 4294967296 := by
  induction k with
  | zero => exact h
  | succ k ih => exact step1_lt ih
theorem nib_lt {s : Nat} (h : s < 4294967296) : nib s < 4294967296 := Nat.xor_lt_two_pow (n := 32) (by omega) (stepN_lt 4 (by omega))
theorem crc0_lt (l : List UInt8) : crc0 l < 4294967296 := by
  unfold crc0
  have : ∀ (l : List UInt8) (s : Nat), s < 4294967296 → l.foldl (fun s c => nib (nib (s ^^^ c.toNat))) s < 4294967296 := by
    intro l
    induction l with
    | nil => intro s h; exact h
    | cons c l ih =>
      intro s h
      have hc := UInt8.toNat_lt c
      exact ih _ (nib_lt (nib_lt (Nat.xor_lt_two_pow (n := 32) h (by omega))))
  exact this l _ (by omega)
theorem crc_lt (l : List UInt8) : crc l < 4294967296 := Nat.xor_lt_two_pow (n := 32) (by omega) (crc0_lt l)
theorem crc0_snoc (l : List UInt8) (c : UInt8) : crc0 (l ++ [c]) = nib (nib (crc0 l ^^^ c.toNat)) := by simp [crc0]
theorem crc0_step (b : List UInt8) (j : Nat) (h : j < b.length) : crc0 (b.take (j + 1)) = nib (nib (crc0 (b.take j) ^^^ gb b j)) := by
  rw [List.take_succ_eq_append_getElem h, crc0_snoc]
  simp [gb, List.getD_eq_getElem?_getD, h]
theorem and1 (v : Nat) : v &&& 1 = v % 2 := Nat.and_one_is_mod v
theorem and15 (v : Nat) : v &&& 15 = v % 16 := Nat.and_two_pow_sub_one_eq_mod v 4
theorem cv_and1 {a : Nat} (h : a < 4294967296) : Value.int .u32 (IntKind.u32.wrap (((BitVec.ofInt 32 ((a : Nat) : Int) &&& BitVec.ofInt 32 1).toNat : Nat) : Int)) = .int .u32 ((a % 2 : Nat) : Int) := by
  have := cv_and_u32 (a := a) (b := 1) h (by omega)
  rw [and1] at this
  exact this
theorem cv_and15 {a : Nat} (h : a < 4294967296) : Value.int .u32 (IntKind.u32.wrap (((BitVec.ofInt 32 ((a : Nat) : Int) &&& BitVec.ofInt 32 15).toNat : Nat) : Int)) = .int .u32 ((a % 16 : Nat) : Int) := by
  have := cv_and_u32 (a := a) (b := 15) h (by omega)
  rw [and15] at this
  exact this
theorem cv_crc (b : List UInt8) (j : Nat) (h : j = b.length) : Value.int .u32 (IntKind.u32.wrap (((BitVec.ofInt 32 4294967295 ^^^ BitVec.ofInt 32 ((crc0 (b.take j) : Nat) : Int)).toNat : Nat) : Int)) = .int .u32 ((crc b : Nat) : Int) := by
  subst h
  rw [List.take_length]
  exact cv_xor_u32 (a := 4294967295) (b := crc0 b) (by omega) (crc0_lt b)
theorem cv_negbit (v : Nat) : Value.int .u32 (IntKind.u32.wrap (0 - ((v % 2 : Nat) : Int))) = .int .u32 ((v % 2 * 4294967295 : Nat) : Int) := by
  rcases Nat.mod_two_eq_zero_or_one v with h | h <;> rw [h] <;> rfl
theorem cv_msk (v : Nat) : Value.int .u32 (IntKind.u32.wrap (((BitVec.ofInt 32 2197175160 &&& BitVec.ofInt 32 ((v % 2 * 4294967295 : Nat) : Int)).toNat : Nat) : Int)) = .int .u32 ((msk v : Nat) : Int) := by
  unfold msk
  rcases Nat.mod_two_eq_zero_or_one v with h | h <;> rw [h] <;> rfl
def tabL (i : Nat) : List Value := (List.range 16).map fun j => .int .u32 ((if j < i then tab j else 0 : Nat) : Int)
theorem tabL_length (i : Nat) : (tabL i).length = 16 := by simp [tabL]
theorem tabL_set (i : Nat) (h : i < 16) : (tabL i).set i (.int .u32 ((tab i : Nat) : Int)) = tabL (i + 1) := by
  apply List.ext_getElem
  · simp [tabL]
  · intro j h1 h2
    simp only [tabL, List.getElem_set, List.getElem_map, List.getElem_range]
    by_cases hij : i = j
    · subst hij; simp
    · simp only [hij, if_false]
      congr 2
      by_cases hj : j < i
      · simp [hj, show j < i + 1 from by omega]
      · simp [hj, show ¬ j < i + 1 from by omega]
theorem tabL_get (j : Nat) (h : j < 16) : (tabL 16)[j]? = some (.int .u32 ((tab j : Nat) : Int)) := by
  simp [tabL, h]
def four (n : Nat) : List UInt8 := [UInt8.ofNat (n / 16777216), UInt8.ofNat (n / 65536), UInt8.ofNat (n / 256), UInt8.ofNat n]
def get4 (b : List UInt8) : Nat := gb b 0 * 16777216 + gb b 1 * 65536 + gb b 2 * 256 + gb b 3
theorem get4_lt (b : List UInt8) : get4 b < 4294967296 := by
  have := gb_lt b 0; have := gb_lt b 1; have := gb_lt b 2; have := gb_lt b 3
  unfold get4; omega
theorem or_low_k (i n c : Nat) (hc : c < 2 ^ i) : n * 2 ^ i ||| c = n * 2 ^ i + c := by
  have := Nat.two_pow_add_eq_or_of_lt (i := i) hc n
  rw [Nat.mul_comm n]
  exact this.symm
theorem get4_or1 (b : List UInt8) : gb b 0 * 16777216 ||| gb b 1 * 65536 = gb b 0 * 16777216 + gb b 1 * 65536 := or_low_k 24 (gb b 0) _ (by have := gb_lt b 1; omega)
theorem get4_or2 (b : List UInt8) : (gb b 0 * 16777216 + gb b 1 * 65536) ||| gb b 2 * 256 = gb b 0 * 16777216 + gb b 1 * 65536 + gb b 2 * 256 := by
  have := or_low_k 16 (gb b 0 * 256 + gb b 1) (gb b 2 * 256) (by have := gb_lt b 2; omega)
  rw [show (gb b 0 * 256 + gb b 1) * 2 ^ 16 = gb b 0 * 16777216 + gb b 1 * 65536 from by omega] at this
  exact this
theorem get4_or3 (b : List UInt8) : (gb b 0 * 16777216 + gb b 1 * 65536 + gb b 2 * 256) ||| gb b 3 = get4 b := by
  have := or_low_k 8 (gb b 0 * 65536 + gb b 1 * 256 + gb b 2) (gb b 3) (by have := gb_lt b 3; omega)
  rw [show (gb b 0 * 65536 + gb b 1 * 256 + gb b 2) * 2 ^ 8 = gb b 0 * 16777216 + gb b 1 * 65536 + gb b 2 * 256 from by omega] at this
  exact this
theorem four_get4 (n : Nat) (h : n < 4294967296) (l : List UInt8) : get4 (four n ++ l) = n := by
  simp only [get4, four, gb, List.cons_append, List.nil_append, List.getD_eq_getElem?_getD]
  simp only [List.getElem?_cons_zero, List.getElem?_cons_succ, Option.getD_some, UInt8.toNat_ofNat']
  omega
def frameB (p : List UInt8) : List UInt8 := four p.length ++ p ++ four (crc (four p.length ++ p))
def openF (b : List UInt8) : List UInt8 × Nat × Nat :=
  if b.length < 4 then ([], 0, 3) else
  if 1048576 < get4 b then ([], 0, 2) else
  if b.length < get4 b + 8 then ([], 0, 3) else
  if crc (b.take (get4 b + 4)) ≠ get4 (b.drop (get4 b + 4)) then ([], 0, 5) else
  ((b.drop 4).take (get4 b), get4 b + 8, 0)
def patch (xs : List UInt8) (o : Nat) (ys : List UInt8) : List UInt8 := xs.take o ++ ys ++ xs.drop (o + ys.length)
theorem four_length (n : Nat) : (four n).length = 4 := rfl
theorem put4_eq (xs : List UInt8) (o n : Nat) (h : o + 4 ≤ xs.length) :
    ((((bv xs).set ((o + 0) * 1) (.int .u8 (((UInt8.ofNat (n / 16777216)).toNat : Nat) : Int))).set ((o + 1) * 1) (.int .u8 (((UInt8.ofNat (n / 65536)).toNat : Nat) : Int))).set ((o + 2) * 1) (.int .u8 (((UInt8.ofNat (n / 256)).toNat : Nat) : Int))).set ((o + 3) * 1) (.int .u8 (((UInt8.ofNat n).toNat : Nat) : Int)) = bv (patch xs o (four n)) := by
  simp only [bv_set, Nat.mul_one, Nat.add_zero]
  congr 1
  apply List.ext_getElem
  · simp [patch, four]; omega
  · intro j h1 h2
    simp only [List.length_set] at h1
    simp only [List.getElem_set, patch, four]
    by_cases hj : j < o
    · rw [List.getElem_append_left (by simp; omega), List.getElem_append_left (by simp; omega)]
      simp [show ¬ o + 3 = j from by omega, show ¬ o + 2 = j from by omega, show ¬ o + 1 = j from by omega, show ¬ o = j from by omega]
    · by_cases hj4 : j < o + 4
      · rw [List.getElem_append_left (by simp; omega), List.getElem_append_right (by simp; omega)]
        simp only [List.length_take, Nat.min_eq_left (show o ≤ xs.length by omega)]
        have : j = o ∨ j = o + 1 ∨ j = o + 2 ∨ j = o + 3 := by omega
        rcases this with rfl | rfl | rfl | rfl <;> simp
      · rw [List.getElem_append_right (by simp; omega)]
        simp only [List.length_append, List.length_take, List.length_cons, List.length_nil, List.getElem_drop]
        rw [if_neg (by omega), if_neg (by omega), if_neg (by omega), if_neg (by omega)]
        congr 1
        omega
theorem frame_put (p : List UInt8) : patch (List.replicate (p.length + 8) 0) 0 (four p.length) = four p.length ++ List.replicate (p.length + 4) 0 := by
  simp [patch, four_length]
theorem frame_copy (p : List UInt8) : (bv (four p.length ++ List.replicate (p.length + 4) 0)).take 4 ++ (bv p).take (min p.length (p.length + 8 - 4)) ++ (bv (four p.length ++ List.replicate (p.length + 4) 0)).drop (4 + min p.length (p.length + 8 - 4)) = bv (four p.length ++ p ++ List.replicate 4 0) := by
  rw [Nat.min_eq_left (by omega), ← bv_take, ← bv_take, ← bv_drop, ← bv_append, ← bv_append]
  congr 1
  rw [List.take_of_length_le (Nat.le_refl _), List.take_left' (four_length _), List.drop_append, List.drop_of_length_le (by rw [four_length]; omega), four_length]
  simp
theorem frame_sum (p : List UInt8) : ((four p.length ++ p ++ List.replicate 4 0).drop 0).take (p.length + 4 - 0) = four p.length ++ p := by
  rw [List.drop_zero, Nat.sub_zero, List.take_left' (by simp [four_length]; omega)]
theorem frame_end (p : List UInt8) (c : Nat) : patch (four p.length ++ p ++ List.replicate 4 0) (p.length + 4) (four c) = four p.length ++ p ++ four c := by
  unfold patch
  rw [List.take_left' (by simp [four_length]; omega), List.drop_of_length_le (by simp [four_length]; omega), List.append_nil]
def frameO (p : List UInt8) : List UInt8 := if 1048576 < p.length then [] else frameB p
theorem frameB_length (p : List UInt8) : (frameB p).length = p.length + 8 := by simp [frameB, four_length]; omega
end Go.Proofs.YtajapgjemefoiaaGreatDoor
/- Layers 1 and 20: what was laid is read again: numbers, rows, frames, snapshots. Plain mathematics. -/
set_option linter.unusedVariables false
namespace Go.Proofs.YtajapgjemefoiaaGreatDoor
open Go.SW
theorem bitLen_bd (n : Nat) (h : n < 9223372036854775808) : n < 2 ^ Lib.bitLen n ∧ Lib.bitLen n ≤ 63 ∧ (n ≠ 0 → 1 ≤ Lib.bitLen n ∧ 2 ^ (Lib.bitLen n - 1) ≤ n) := by
  by_cases h0 : n = 0
  · subst h0
    exact ⟨by decide, by decide, fun h => absurd rfl h⟩
  · have hb := Lib.bitLenAux_bounds 64 n (by omega) h0
    refine ⟨hb.2.2, ?_, fun _ => ⟨hb.1, hb.2.1⟩⟩
    show Lib.bitLenAux 64 n ≤ 63
    refine Classical.byContradiction fun hc => ?_
    have h1 : 2 ^ 63 ≤ 2 ^ (Lib.bitLenAux 64 n - 1) := Nat.pow_le_pow_right (by omega) (by omega)
    have h2 := hb.2.1
    have h3 : (2 : Nat) ^ 63 = 9223372036854775808 := by decide
    omega
theorem numLen_bd (n : Nat) (h : n < 9223372036854775808) : n < 256 ^ numLen n ∧ numLen n ≤ 8 ∧ (n ≠ 0 → 1 ≤ numLen n ∧ 256 ^ (numLen n - 1) ≤ n) := by
  obtain ⟨h1, h2, h3⟩ := bitLen_bd n h
  have e : ∀ k, 256 ^ k = 2 ^ (8 * k) := fun k => by rw [Nat.pow_mul]
  refine ⟨?_, by unfold numLen; omega, fun h0 => ⟨by have := (h3 h0).1; unfold numLen; omega, ?_⟩⟩
  · rw [e]
    exact Nat.lt_of_lt_of_le h1 (Nat.pow_le_pow_right (by omega) (by unfold numLen; omega))
  · rw [e]
    exact Nat.le_trans (Nat.pow_le_pow_right (by omega) (by have := (h3 h0).1; unfold numLen; omega)) (h3 h0).2
theorem beVal_dig (n k : Nat) : beVal (dig n k) = n % 256 ^ k := by
  induction k generalizing n with
  | zero => simp [dig, beVal, Nat.mod_one]
  | succ k ih =>
    rw [dig, beVal_snoc, ih, Nat.pow_succ, Nat.mul_comm (256 ^ k), Nat.mod_mul]
    have : (UInt8.ofNat n).toNat = n % 256 := by simp
    rw [this]; omega
theorem gb_succ (c : UInt8) (l : List UInt8) (j : Nat) : gb (c :: l) (j + 1) = gb l j := rfl
theorem takeNum_numB (n : Nat) (h : n < 9223372036854775808) (r : List UInt8) : takeNum (numB n ++ r) = (n, (numB n).length, 0) := by
  obtain ⟨h1, h2, h3⟩ := numLen_bd n h
  have g0 : gb (numB n ++ r) 0 = numLen n := by
    show (UInt8.ofNat (numLen n)).toNat = numLen n
    simp; omega
  have hl : (numB n ++ r).length = numLen n + 1 + r.length := by rw [List.length_append, numB_length]
  have g1 : 0 < numLen n → gb (numB n ++ r) 1 = n / 256 ^ (numLen n - 1) % 256 := by
    intro hk
    show gb (UInt8.ofNat (numLen n) :: dig n (numLen n) ++ r) 1 = _
    rw [List.cons_append, gb_succ]
    have hd := dig_get (numLen n) n 0 (by rw [dig_length]; exact hk)
    unfold gb
    rw [List.getD_eq_getElem?_getD, List.getElem?_append_left (by rw [dig_length]; exact hk), List.getElem?_eq_getElem (by rw [dig_length]; exact hk), Option.getD_some, hd]
    simp
  unfold takeNum
  rw [if_neg (by omega), g0, if_neg (by omega), if_neg (by omega)]
  rw [if_neg ?_, if_neg ?_]
  · have hdr : (numB n ++ r).drop 1 = dig n (numLen n) ++ r := rfl
    rw [hdr, List.take_left' (dig_length _ _), beVal_dig, Nat.mod_eq_of_lt h1, numB_length, Nat.add_comm]
  · rintro ⟨k0, k1⟩
    rw [g1 k0] at k1
    have hn0 : n ≠ 0 := by
      intro e; subst e
      exact absurd k0 (by decide)
    have hge := (h3 hn0).2
    have hlt : n / 256 ^ (numLen n - 1) < 256 := by
      rw [Nat.div_lt_iff_lt_mul (Nat.pow_pos (by omega)), ← Nat.pow_succ']
      rw [show (numLen n - 1).succ = numLen n by omega]
      exact h1
    rw [Nat.mod_eq_of_lt hlt] at k1
    have := Nat.div_pos hge (Nat.pow_pos (by omega) : 0 < 256 ^ (numLen n - 1))
    omega
  · rintro ⟨k8, k1⟩
    rw [g1 (by omega), k8] at k1
    have e : (256 : Nat) ^ (8 - 1) = 72057594037927936 := by decide
    rw [e] at k1
    omega
theorem takeBlob_blobB (c : List UInt8) (h : ¬ 65536 < c.length) (r : List UInt8) : takeBlob (blobB c ++ r) = (c, (blobB c).length, 0) := by
  have e : blobB c = numB c.length ++ c := by unfold blobB; rw [if_neg h]
  have hn : takeNum (blobB c ++ r) = (c.length, (numB c.length).length, 0) := by
    rw [e, List.append_assoc]; exact takeNum_numB _ (by omega) _
  unfold takeBlob
  rw [hn]
  rw [if_neg (by simp), if_neg h, if_neg (by rw [e]; simp only [List.length_append]; omega)]
  rw [e, List.append_assoc, List.drop_left, List.take_left, List.length_append]
end Go.Proofs.YtajapgjemefoiaaGreatDoor
/- errors.As at an error of the kind api.Errno and a target of that kind: what it answers and leaves; after the kit's worked example of errors.As. Plain theorems. -/
set_option maxRecDepth 100000
set_option linter.unusedVariables false
set_option linter.unusedSimpArgs false
namespace Go.Proofs.YtajapgjemefoiaaGreatDoor
open Go.RowKit Go.Extern.Stop Go.Stop Go.Extern Go.SW

abbrev hdl (t : Nat) : Value := .pointer (some ⟨4, t, none⟩)
abbrev errTy : Value := .iface 186 (.agg #[hdl 35])
theorem valueOfP (t : Addr) (w : World) : (ReflectliteValue.unpack (.iface 122 (.pointer (some t)))).run Tryz.prog w
    = .ok (.agg #[hdl 122, .pointer (some ⟨w.heap.size, 0, none⟩), .int .u64 150]) (w.alloc (.cells #[.pointer (some t)] 122)) := by kernel_rfl
theorem typeP (a : Addr) (w : World) : (ReflectliteValue.methodAny (ReflectliteValue.valueError "reflectlite.Value.Type" 0) (fun t _ _ _ => ReflectliteType.toType t) #[.agg #[hdl 122, .pointer (some a), .int .u64 150]]).run Tryz.prog w
    = .ok (.iface 186 (.agg #[hdl 122])) w := by kernel_rfl
theorem methodKind (h : Value) (w : World) : (Go.method 384 186 (.agg #[h]) "Kind").run Tryz.prog w = .ok (190, h) w := by kernel_rfl
theorem kindP (w : World) : ((ReflectliteType.abiMethod fun t => (fun a : Nat => Value.int IntKind.u8 (a : Int)) <$> Rtype.kind t) #[hdl 122]).run Tryz.prog w = .ok (.int .u8 22) w := by kernel_rfl
theorem kindE (w : World) : ((ReflectliteType.abiMethod fun t => (fun a : Nat => Value.int IntKind.u8 (a : Int)) <$> Rtype.kind t) #[hdl 38]).run Tryz.prog w = .ok (.int .u8 2) w := by kernel_rfl
theorem rlm (z : Sem Value) (f : TypeId → Addr → Nat → Nat → Sem Value) (v : Value) :
    ReflectliteValue.method z f #[v] = (do match ← ReflectliteValue.parts v with | none => z | some (t, a, fl) => f t a fl (fl % 32)) := rfl
theorem partsP (a : Addr) (w : World) : (ReflectliteValue.parts (.agg #[hdl 122, .pointer (some a), .int .u64 150])).run Tryz.prog w = .ok (some (122, a, 150)) w := by kernel_rfl
theorem isNilP (a p : Addr) (W : World) (ha : W.cell? a = some (.pointer (some p))) :
    (ReflectliteValue.method (ReflectliteValue.valueError "reflectlite.Value.IsNil" 0) ReflectliteValue.isNil #[.agg #[hdl 122, .pointer (some a), .int .u64 150]]).run Tryz.prog W = .ok (.bool false) W := by
  rw [rlm]
  simp only [Sem.run_bind, partsP, Result.andThen]
  simp [ReflectliteValue.isNil, loadVar, isAgg, underlying, Tryz.underlying122, ha, Result.andThen]
theorem methodElem (h : Value) (w : World) : (Go.method 384 186 (.agg #[h]) "Elem").run Tryz.prog w = .ok (203, .agg #[h]) w := by kernel_rfl
theorem methodImplements (h : Value) (w : World) : (Go.method 384 186 (.agg #[h]) "Implements").run Tryz.prog w = .ok (204, .agg #[h]) w := by kernel_rfl
theorem methodAssignableTo (h : Value) (w : World) : (Go.method 384 186 (.agg #[h]) "AssignableTo").run Tryz.prog w = .ok (201, .agg #[h]) w := by kernel_rfl
theorem elemP (w : World) : (ReflectliteType.method ReflectliteType.elem #[.agg #[hdl 122]]).run Tryz.prog w = .ok (.iface 186 (.agg #[hdl 38])) w := by kernel_rfl
theorem implementsE (w : World) : (ReflectliteType.relation "Implements" ReflectliteType.implements_ #[.agg #[hdl 38], errTy]).run Tryz.prog w = .ok (.bool true) w := by kernel_rfl
theorem typeOfE (v : Value) (w : World) : (ReflectliteType.typeOf #[.iface 38 v]).run Tryz.prog w = .ok (.iface 186 (.agg #[hdl 38])) w := by kernel_rfl
theorem assignableE (w : World) : (ReflectliteType.relation "AssignableTo" ReflectliteType.assignableTo #[.agg #[hdl 38], .iface 186 (.agg #[hdl 38])]).run Tryz.prog w = .ok (.bool true) w := by kernel_rfl
theorem valueOfE (e : Int) (w : World) : (ReflectliteValue.unpack (.iface 38 (.int .i64 e))).run Tryz.prog w
    = .ok (.agg #[hdl 38, .pointer (some ⟨w.heap.size, 0, none⟩), .int .u64 130]) (w.alloc (.cells #[.int .i64 e] 38)) := by kernel_rfl
theorem elemOfP (w : World) : (Rtype.elem? 122).run Tryz.prog w = .ok (some 38) w := by kernel_rfl
theorem mkE (p : Addr) (w : World) : (ReflectliteValue.mk 38 p ReflectliteValue.flagAddr).run Tryz.prog w = .ok (.agg #[hdl 38, .pointer (some p), .int .u64 386]) w := by kernel_rfl
theorem elemVP (a p : Addr) (W : World) (ha : W.cell? a = some (.pointer (some p))) :
    (ReflectliteValue.method (ReflectliteValue.valueError "reflectlite.Value.Elem" 0) ReflectliteValue.elem #[.agg #[hdl 122, .pointer (some a), .int .u64 150]]).run Tryz.prog W
      = .ok (.agg #[hdl 38, .pointer (some p), .int .u64 386]) W := by
  rw [rlm]
  simp only [Sem.run_bind, partsP, Result.andThen]
  simp [ReflectliteValue.elem, loadVar, isAgg, underlying, Tryz.underlying122, ha, Result.andThen, elemOfP, mkE]
theorem rls (v x : Value) : ReflectliteValue.set #[v, x] = (do
    let (some (dst, a, fl), some (src, b, _)) := (← ReflectliteValue.parts v, ← ReflectliteValue.parts x)
      | unsupported (.noEntry "extern/(internal/reflectlite.Value).Set.zeroValue")
    if fl / ReflectliteValue.flagAddr % 2 == 0 then unsupported (.noEntry "extern/(internal/reflectlite.Value).Set.unaddressable")
    let val ← loadVar src b
    if ← Rtype.directlyAssignable dst src then storeVar dst a val
    else if ← Rtype.implements dst src then
      if (← Rtype.kind src) == 20 then
        match val with
        | .nilIface => unsupported (.noEntry "extern/reflectlite: a nil value of one interface type handed on as a value of another")
        | _ => storeVar dst a val
      else storeVar dst a (.iface src val)
    else panicString ("reflectlite.Set: value of type " ++ (← Rtype.spelt src) ++ " is not assignable to type " ++ (← Rtype.spelt dst))
    pure (.tuple #[])) := rfl
theorem partsEa (a : Addr) (w : World) : (ReflectliteValue.parts (.agg #[hdl 38, .pointer (some a), .int .u64 386])).run Tryz.prog w = .ok (some (38, a, 386)) w := by kernel_rfl
theorem partsE (a : Addr) (w : World) : (ReflectliteValue.parts (.agg #[hdl 38, .pointer (some a), .int .u64 130])).run Tryz.prog w = .ok (some (38, a, 130)) w := by kernel_rfl
theorem directE (w : World) : (Rtype.directlyAssignable 38 38).run Tryz.prog w = .ok true w := by kernel_rfl
theorem setE (ta b : Addr) (e : Int) (old : Value) (W : World) (hb : W.cell? b = some (.int .i64 e)) (ht : W.cell? ta = some old) (hf : W.frozen? ta = false) :
    (ReflectliteValue.set #[.agg #[hdl 38, .pointer (some ta), .int .u64 386], .agg #[hdl 38, .pointer (some b), .int .u64 130]]).run Tryz.prog W
      = .ok (.tuple #[]) (W.setCell ta (.int .i64 e)) := by
  rw [rls]
  simp only [Sem.run_bind, partsEa, partsE, Result.andThen]
  simp [ReflectliteValue.flagAddr, loadVar, isAgg, underlying, Tryz.underlying38, hb, Result.andThen, directE, storeVar, Value.cells, storeCells, Addr.add]
  rw [run_store Tryz.prog W ta _ _ (by rfl)]
  simp [ht, hf]

set_option maxHeartbeats 8000000 in
theorem as_hit (e : Int) (t : Addr) (old : Value) (w : World) (hg : w.cell? ⟨0, 0, none⟩ = some errTy) (ht0 : w.cell? t = some old) (hf0 : w.frozen? t = false) :
    Calls Tryz.prog 56 #[.iface 38 (.int .i64 e), .iface 122 (.pointer (some t))] w fun ev w' => ev = .returned (.bool true) ∧ w' = ((((w.alloc (.cells #[.pointer (some t)] 122)).alloc (.cells #[hdl 122, .pointer (some ⟨w.heap.size, 0, none⟩), .int .u64 150] 155)).alloc (.cells #[hdl 122, .pointer (some ⟨w.heap.size, 0, none⟩), .int .u64 150] 155)).alloc (.cells #[.int .i64 e] 38)).setCell t (.int .i64 e) := by
  have h6 := @run_callFunc_extern Tryz.prog 88 _ (fun args => ReflectliteValue.unpack (args.getD 0 (.tuple #[]))) Tryz.func88 (by kernel_rfl) (by kernel_rfl) (by kernel_rfl) (by kernel_rfl)
  have h7 := @run_callFunc_extern Tryz.prog 89 _ (ReflectliteValue.methodAny (ReflectliteValue.valueError "reflectlite.Value.Type" 0) (fun t _ _ _ => ReflectliteType.toType t)) Tryz.func89 (by kernel_rfl) (by kernel_rfl) (by kernel_rfl) (by kernel_rfl)
  have h8 := @run_callFunc_extern Tryz.prog 90 _ (ReflectliteValue.method (ReflectliteValue.valueError "reflectlite.Value.IsNil" 0) ReflectliteValue.isNil) Tryz.func90 (by kernel_rfl) (by kernel_rfl) (by kernel_rfl) (by kernel_rfl)
  have h27 := @run_callFunc_extern Tryz.prog 190 _ (ReflectliteType.abiMethod fun t => do pure (.int .u8 (← Rtype.kind t))) Tryz.func190 (by kernel_rfl) (by kernel_rfl) (by kernel_rfl) (by kernel_rfl)
  have h37 := @run_callFunc_extern Tryz.prog 203 _ (ReflectliteType.method ReflectliteType.elem) Tryz.func203 (by kernel_rfl) (by kernel_rfl) (by kernel_rfl) (by kernel_rfl)
  have h38 := @run_callFunc_extern Tryz.prog 204 _ (ReflectliteType.relation "Implements" ReflectliteType.implements_) Tryz.func204 (by kernel_rfl) (by kernel_rfl) (by kernel_rfl) (by kernel_rfl)
  have h10 := @run_callFunc_extern Tryz.prog 73 _ ReflectliteType.typeOf Tryz.func73 (by kernel_rfl) (by kernel_rfl) (by kernel_rfl) (by kernel_rfl)
  have h35 := @run_callFunc_extern Tryz.prog 201 _ (ReflectliteType.relation "AssignableTo" ReflectliteType.assignableTo) Tryz.func201 (by kernel_rfl) (by kernel_rfl) (by kernel_rfl) (by kernel_rfl)
  have h11 := @run_callFunc_extern Tryz.prog 116 _ (ReflectliteValue.method (ReflectliteValue.valueError "reflectlite.Value.Elem" 0) ReflectliteValue.elem) Tryz.func116 (by kernel_rfl) (by kernel_rfl) (by kernel_rfl) (by kernel_rfl)
  have h12 := @run_callFunc_extern Tryz.prog 117 _ ReflectliteValue.set Tryz.func117 (by kernel_rfl) (by kernel_rfl) (by kernel_rfl) (by kernel_rfl)
  have tO := typeOfE
  have mA := methodAssignableTo
  have a25 := assignableE
  have v25 := valueOfE
  have f6 := valueOfP
  have f7 := typeP
  have mK := methodKind
  have mE := methodElem
  have mI := methodImplements
  have k27 := kindP
  have k25 := kindE
  have e27 := elemP
  have i25 := implementsE
  have n8 := isNilP ⟨w.heap.size, 0, none⟩ t ((w.alloc (.cells #[.pointer (some t)] 122)).alloc (.cells #[hdl 122, .pointer (some ⟨w.heap.size, 0, none⟩), .int .u64 150] 155)) (by simp)
  have hlt : 0 < w.heap.size := by
    rcases Nat.eq_zero_or_pos w.heap.size with h0 | h
    · simp [World.cell?, h0] at hg
    · exact h
  have hg2 : ((w.alloc (.cells #[.pointer (some t)] 122)).alloc (.cells #[hdl 122, .pointer (some ⟨w.heap.size, 0, none⟩), .int .u64 150] 155)).cell? ⟨0, 0, none⟩ = some errTy := by
    rw [World.cell?_alloc_lt _ _ ⟨0, 0, none⟩ (by simp), World.cell?_alloc_lt _ _ ⟨0, 0, none⟩ hlt]; exact hg
  have htl : t.block < w.heap.size := by
    rcases Nat.lt_or_ge t.block w.heap.size with h | h
    · exact h
    · simp [World.cell?, Array.getElem?_eq_none h] at ht0
  have el := elemVP ⟨w.heap.size, 0, none⟩ t (((w.alloc (.cells #[.pointer (some t)] 122)).alloc (.cells #[hdl 122, .pointer (some ⟨w.heap.size, 0, none⟩), .int .u64 150] 155)).alloc (.cells #[hdl 122, .pointer (some ⟨w.heap.size, 0, none⟩), .int .u64 150] 155)) (by rw [World.cell?_alloc_lt _ _ ⟨w.heap.size, 0, none⟩ (by simp; omega)]; simp)
  have st := setE t ⟨w.heap.size + 1 + 1 + 1, 0, none⟩ e old ((((w.alloc (.cells #[.pointer (some t)] 122)).alloc (.cells #[hdl 122, .pointer (some ⟨w.heap.size, 0, none⟩), .int .u64 150] 155)).alloc (.cells #[hdl 122, .pointer (some ⟨w.heap.size, 0, none⟩), .int .u64 150] 155)).alloc (.cells #[.int .i64 e] 38))
    (by rw [World.cell?_alloc_at _ _ _ _ (by simp)]; rfl)
    (by rw [World.cell?_alloc_lt _ _ t (by simp; omega), World.cell?_alloc_lt _ _ t (by simp; omega), World.cell?_alloc_lt _ _ t (by simp; omega), World.cell?_alloc_lt _ _ t htl]; exact ht0)
    (by rw [World.frozen?_alloc_old _ _ t (by simp; omega), World.frozen?_alloc_old _ _ t (by simp; omega), World.frozen?_alloc_old _ _ t (by simp; omega), World.frozen?_alloc_old _ _ t (Nat.ne_of_lt htl)]; exact hf0)
  go_enter Tryz.func56, Tryz.ntmps56
  go_wp2
  refine wp_loop_rounds 1 ?_
  rw [rounds_succ]
  go_wp2
  go_ret
  exact ⟨rfl, rfl⟩
theorem As_ct (e : Int) (b : Nat) (w : World) (hM : Mine w [.blk b 38 [.int .i64 0]]) (hg : off w (blksOf [.blk b 38 [.int .i64 0]]) ⟨0, 0, none⟩ = some errTy) :
    Fun Tryz.prog 56 [.iface 38 (.int .i64 e), .iface 122 (.pointer (some ⟨b, 0, none⟩))] w fun v w' => v = .bool true ∧ Turn w w' [.blk b 38 [.int .i64 0]] [.blk b 38 [.int .i64 e]] := by
  have hH := Hp.start_mine hM
  have h := as_hit e ⟨b, 0, none⟩ (.int .i64 0) w (off_le _ _ _ _ hg) (hH.blk_cell 0 rfl rfl) (hH.blk_free 0 rfl 0)
  refine Calls.mono h ?_
  rintro ev w' ⟨rfl, rfl⟩
  refine ⟨_, rfl, rfl, ?_⟩
  have h1 := hH.call (Fresh.alloc w [.pointer (some ⟨b, 0, none⟩)] 122)
  have h2 := h1.call (Fresh.alloc _ [hdl 122, .pointer (some ⟨w.heap.size, 0, none⟩), .int .u64 150] 155)
  have h3 := h2.call (Fresh.alloc _ [hdl 122, .pointer (some ⟨w.heap.size, 0, none⟩), .int .u64 150] 155)
  have h4 := h3.call (Fresh.alloc _ [.int .i64 e] 38)
  have h5 := h4.blk_set 0 rfl 0 (.int .i64 e)
  exact (h5.sublist (.cons_cons _ (List.nil_sublist _))).turned
end Go.Proofs.YtajapgjemefoiaaGreatDoor
/- errors.Is at an error of the kind api.Errno, the code 81 the target: what it answers; after the kit's worked example of errors.Is. Plain theorems. -/
set_option maxRecDepth 1000000
set_option linter.unusedVariables false
set_option linter.unusedSimpArgs false
namespace Go.Proofs.YtajapgjemefoiaaGreatDoor
open Go.RowKit Go.Extern.Stop Go.Stop Go.Extern Go.SW
theorem isComparableE (w : World) : ((Extern.ReflectliteType.method fun t => do Rtype.noPackHeld "Comparable" t; (fun a => Value.bool a.comparable) <$> typeInfo t) #[.agg #[hdl 38]]).run Tryz.prog w = .ok (.bool true) w := by kernel_rfl
theorem isMethodComparable (v : Value) (w : World) : (Go.method 384 186 v "Comparable").run Tryz.prog w = .ok (202, v) w := by kernel_rfl
theorem noIsE (v : Value) (xT : TypeId) (w : World) : (Instr.typeAssert (.iface 38 v) xT 188 true).run Tryz.prog w = .ok (.tuple #[.nilIface, .bool false]) w := run_typeAssert_lacksB Tryz.underlying188 (by kernel_rfl) (by kernel_rfl) v xT w
theorem noUnwrapE (v : Value) (xT : TypeId) (w : World) : (Instr.typeAssert (.iface 38 v) xT 191 true).run Tryz.prog w = .ok (.tuple #[.nilIface, .bool false]) w := run_typeAssert_lacksB Tryz.underlying191 (by kernel_rfl) (by kernel_rfl) v xT w
theorem noUnwrapsE (v : Value) (xT : TypeId) (w : World) : (Instr.typeAssert (.iface 38 v) xT 193 true).run Tryz.prog w = .ok (.tuple #[.nilIface, .bool false]) w := run_typeAssert_lacksB Tryz.underlying193 (by kernel_rfl) (by kernel_rfl) v xT w
theorem eqE (a b : Int) (w : World) : (binOp .eql 35 (.iface 38 (.int .i64 a)) (.iface 38 (.int .i64 b))).run Tryz.prog w = .ok (.bool (a == b)) w := by
  have hc : (Tryz.prog.info? 38).map (·.comparable) = some true := by kernel_rfl
  obtain ⟨inf, h1, h2⟩ := Option.map_eq_some_iff.1 hc
  have hr : (Op.equal 35 (.iface 38 (.int .i64 a)) (.iface 38 (.int .i64 b))).run Tryz.prog w = .ok (a == b) w := by
    unfold Op.equal Op.maxDepth
    rw [Op.equalIn]
    simp only [Sem.run_bind, run_underlying Tryz.underlying35, Result.andThen_ok, ne_eq, not_true_eq_false, if_false, typeInfo]
    simp [h1, h2, run_equalIn_int (P := Tryz.prog) w 9998 38 .i64 .i64 a b Tryz.underlying38, Result.andThen]
  unfold binOp
  simp [hr, Result.andThen]
theorem is_nil (b : Int) (w : World) :
    Calls Tryz.prog 43 #[.nilIface, .iface 38 (.int .i64 b)] w fun e w' => e = .returned (.bool false) ∧ w' = w := by
  have hn := run_eql_iface_nil_left (P := Tryz.prog) w 38 (.int .i64 b) Tryz.underlying35
  go_enter Tryz.func43, Tryz.ntmps43
  go_wp2
  go_ret
  exact ⟨rfl, rfl⟩
set_option maxHeartbeats 8000000 in
theorem is_errno (r : Bool) (a b : Int) (w : World) (hab : (a == b) = r) :
    Calls Tryz.prog 43 #[.iface 38 (.int .i64 a), .iface 38 (.int .i64 b)] w fun e w' => e = .returned (.bool r) ∧ w' = w := by
  have h8 := @run_callFunc_extern Tryz.prog 73 _ Extern.ReflectliteType.typeOf Tryz.func73 (by kernel_rfl) (by kernel_rfl) (by kernel_rfl) (by kernel_rfl)
  have h32 := @run_callFunc_extern Tryz.prog 202 _ (Extern.ReflectliteType.method fun t => do Rtype.noPackHeld "Comparable" t; pure (.bool (← typeInfo t).comparable)) Tryz.func202 (by kernel_rfl) (by kernel_rfl) (by kernel_rfl) (by kernel_rfl)
  have tT := typeOfE
  have cT := isComparableE
  have mR := isMethodComparable
  have nE := noIsE
  have uE := noUnwrapE
  have vE := noUnwrapsE
  have heq := eqE a b w
  rw [hab] at heq
  clear hab
  cases r
  all_goals
    go_enter Tryz.func43, Tryz.ntmps43
    go_wp2
    refine wp_loop_rounds 1 ?_
    rw [rounds_succ]
    go_wp2
    go_ret
    exact ⟨rfl, rfl⟩
end Go.Proofs.YtajapgjemefoiaaGreatDoor
/- How a law's arguments are opened (bytes, snapshots, whole numbers), what the row lists (errors.errorType), and how a walk that turns nothing closes a row. -/
set_option linter.unusedVariables false
set_option maxRecDepth 100000
namespace Go.Proofs.YtajapgjemefoiaaGreatDoor
open Go.ChangeShapes Go.WideShapes Go.RowKit Go.SW
theorem ownP : ownKnob Tryz.prog.godebug = none := by kernel_rfl
theorem etP : Tryz.prog.globalNamed "errors.errorType" = some 0 := by kernel_rfl
theorem rtP : (Tryz.prog.cutTypes.find? (·.1 == "internal/reflectlite.rtype")).map (·.2) = some 186 := by kernel_rfl
theorem oneRowP : ((List.range 284).filter fun t => Tryz.prog.rowNamed t [101, 114, 114, 111, 114]) = [35] := by kernel_rfl
theorem sizeP : Tryz.prog.types.size = 284 := by kernel_rfl
def laidL {H : Type} : List (String × DataW H) := [("errors.errorType", Rows.laid_errors_errorType)]
theorem handle_of_laid {W : World} (h : laidMetH Tryz.prog laidL W) : W.cell? ⟨0, 0, none⟩ = some errTy := by
  have h' : laidMet Tryz.prog [] W ∧ handlesMet Tryz.prog laidL W := h
  obtain ⟨name, u, ty, e1, e2, e3, e4, e5⟩ := h'.2 _ (List.mem_singleton.2 rfl)
  have en : name = [101, 114, 114, 111, 114] := (Option.some.inj e1).symm
  subst en
  obtain rfl := Option.some.inj (rtP.symm.trans e2)
  have hm : ty ∈ (List.range 284).filter fun t => Tryz.prog.rowNamed t [101, 114, 114, 111, 114] := List.mem_filter.2 ⟨List.mem_range.2 (by rw [← sizeP]; exact e3), e4⟩
  rw [oneRowP] at hm
  obtain rfl := List.mem_singleton.1 hm
  have hh : typeHandle Tryz.prog 35 = hdl 35 := by kernel_rfl
  rw [hh] at e5
  simpa using World.var?_cell etP e5 0
section
variable {H : Type} {enc : TypeId × Value → H} {P : Program} {w : World} {base : Nat} {spare : Nat → Bool} {held : Bool}
theorem wf_u8 {n : Int} (h : (Lit.int .u8 n).wf = true) : 0 ≤ n ∧ n ≤ 255 := by
  have e1 : IntKind.u8.min = 0 := by decide
  have e2 : IntKind.u8.max = 255 := by decide
  simpa only [Lit.wf, e1, e2, Bool.and_eq_true, decide_eq_true_eq] using h
theorem open_bytes {t e : TypeId} {fuel : Nat} {cs : List Value} {x : DataW H × List MemPlace} (ht : P.underlying t = some (.slice e)) (he : P.underlying e = some (.int .u8)) (hc : P.cellsOf e = 1) (hz : P.bytesOf e = 1)
    (h : DataW.trod enc P w base spare held fuel t cs = some x) :
    ∃ (v : Value) (l : List UInt8), cs = [v] ∧ RB w.cell? v l ∧ ((x.1.weights P t).all (· ≤ reachBytes) = true → l.length ≤ reachBytes) := by
  rcases open_ints ht he hc h with ⟨rfl, rfl⟩ | ⟨a, len, cap, zs, rfl, _, hlc, hm, hlen, rfl, hcell, hwf⟩
  · exact ⟨_, [], rfl, RB.nil _, fun _ => Nat.zero_le _⟩
  · have hzl : len ≤ zs.length := by rw [hlen]; split <;> omega
    refine ⟨_, (zs.take len).map (fun z => UInt8.ofNat z.toNat), rfl, ?_, ?_⟩
    · refine ⟨by simp [bv], some a, cap, by simp [Nat.min_eq_left hzl], by simp [Nat.min_eq_left hzl]; exact hlc, hm, fun j u hu => ⟨a, rfl, ?_⟩⟩
      have hj : j < len := by
        have := (List.getElem?_eq_some_iff.1 hu).1
        simpa [bv, Nat.min_eq_left hzl] using this
      have hz := hcell j (by omega)
      have hw := wf_u8 (hwf (zs.getD j 0) (by rw [List.getD_eq_getElem?_getD, List.getElem?_eq_getElem (show j < zs.length by omega)]; exact List.getElem_mem _))
      rw [hz]
      congr 1
      have e : (bv ((zs.take len).map fun z => UInt8.ofNat z.toNat))[j]? = some (.int .u8 (((UInt8.ofNat (zs.getD j 0).toNat).toNat : Nat) : Int)) := by
        simp [bv, List.getElem?_take, hj, List.getD_eq_getElem?_getD, List.getElem?_eq_getElem (show j < zs.length by omega)]
      rw [e] at hu
      cases hu
      congr 1
      rw [UInt8.toNat_ofNat']
      omega
    · intro hall
      simp only [DataW.weights, ht, List.all_cons, Bool.and_eq_true, decide_eq_true_eq, hz, Nat.mul_one] at hall
      have h1 := hall.1
      simp only [lits, List.length_map, List.length_take, List.length_drop] at h1
      simp only [List.length_map, List.length_take]
      omega
end
theorem uBytes : Tryz.prog.underlying 37 = some (.slice 5) := by kernel_rfl
theorem uU8 : Tryz.prog.underlying 5 = some (.int .u8) := by kernel_rfl
theorem uBool : Tryz.prog.underlying 4 = some .bool := by kernel_rfl
theorem cBytes : Tryz.prog.cellsOf 37 = 1 := by kernel_rfl
theorem cU8 : Tryz.prog.cellsOf 5 = 1 := by kernel_rfl
theorem zU8 : Tryz.prog.bytesOf 5 = 1 := by kernel_rfl
theorem laidOutP : laidOutB Tryz.prog = true := by kernel_rfl
section
variable {H : Type} {enc : TypeId × Value → H} {w : World} {base : Nat} {spare : Nat → Bool} {held : Bool}
theorem all_stays {P : Program} (hlo : laidOutB P = true) {W W' : World} (hb : Below W.heap.size W W') : ∀ (ts : List TypeId) (vs : List Value) (ds : List (DataW H)) (ps : List MemPlace), (ts.all fun t => P.readableRec t && decide (t < P.types.size)) = true →
    DataW.TrodAll enc P W 0 (fun _ => true) true ts vs ds ps → (∀ x ∈ ps, x.block < W.heap.size) → ∃ qs, DataW.TrodAll enc P W' 0 (fun b => decide (b < W.heap.size)) true ts vs ds qs
  | [], vs, ds, ps, _, h, _ => by
    obtain ⟨rfl, rfl, rfl⟩ := trodAll_nil h
    exact ⟨[], trodAll_mk0⟩
  | t :: ts, vs, ds, ps, ht, h, hlt => by
    obtain ⟨v, vs', d, ds', p, p', rfl, rfl, rfl, h1, h2⟩ := trodAll_cons h
    simp only [List.all_cons, Bool.and_eq_true, decide_eq_true_eq] at ht
    obtain ⟨qs, hq⟩ := all_stays hlo hb ts vs' ds' p' ht.2 h2 (fun x hx => hlt x (List.mem_append_right _ hx))
    have h1' := Below.trod hlo ht.1.1 ht.1.2 h1 hb (fun x hx => hlt x (List.mem_append_left _ hx))
    exact ⟨_, trodAll_cons_mk h1' hq⟩
theorem post_true {s : ChangeSpec} {fn : Func} (hv : s.vars = []) (hr : fn.resultTypes = #[4]) (hp : (fn.params.toList.all fun t => Tryz.prog.readableRec t && decide (t < Tryz.prog.types.size)) = true)
    {W W' : World} {args : Array Value} {ds gs : List (DataW H)} {before : List MemPlace} (hW : DataW.Whole enc Tryz.prog fn.params.toList s.vars false W args.toList ds gs before)
    (hfn : s.fn H (ds ++ gs) = { results := [.lit (.bool true)], args := ds }) (hb : Below W.heap.size W W') : s.post enc Tryz.prog fn false true false false W args (.bool true) W' := by
  have hW' := hW
  obtain ⟨p, q, hA, hV, rfl, hfz, hnd⟩ := hW
  have hlt : ∀ x ∈ p, x.block < W.heap.size := fun x hx => hW'.lt x (List.mem_append_left _ hx)
  obtain ⟨qs, hq⟩ := all_stays laidOutP hb _ _ _ _ hp hA hlt
  refine ⟨ds, gs, _, [], qs, [], hW', ?_, ?_, ?_, hb.frame _, fun h => by cases h⟩
  · rw [hfn, hr]; exact trodAll_mk1 (shut_bool uBool true)
  · rw [hfn]; exact hq
  · rw [hfn, hv]; rfl
end
end Go.Proofs.YtajapgjemefoiaaGreatDoor
/- How a row of structs (or of rows) among a law's arguments is opened, element by element. -/
set_option linter.unusedVariables false
set_option maxRecDepth 100000
namespace Go.Proofs.YtajapgjemefoiaaGreatDoor
open Go.ChangeShapes Go.WideShapes Go.RowKit Go.SW
section
variable {H : Type} {enc : TypeId × Value → H} {P : Program} {w : World} {base : Nat} {spare : Nat → Bool} {held : Bool}
end
theorem one_cell {w : World} {r : Reach} {b0 : Nat} {t e : TypeId} {v : Value} (ht : Tryz.prog.underlying t = some (.slice e)) (hval : Value.okWide Tryz.prog w r b0 t v) : v.cells.toList = [v] := by
  cases v with
  | agg cs => simp [Value.okWide, ht, Cell.okWide, Cell.ok] at hval
  | _ => rfl
end Go.Proofs.YtajapgjemefoiaaGreatDoor
/- How the arguments of a law of the second form are opened: what their bulk bounds. -/
set_option linter.unusedVariables false
set_option maxRecDepth 100000
namespace Go.Proofs.YtajapgjemefoiaaGreatDoor
open Go.ChangeShapes Go.WideShapes Go.RowKit Go.SW
section
variable {H : Type}
theorem bk_one (d : DataW H) : 1 ≤ Rows.uptoBulk d := by
  cases d with
  | lit l => cases l <;> simp [Rows.uptoBulk]
  | _ => simp [Rows.uptoBulk]
theorem bk_len : ∀ (l : List (DataW H)), l.length ≤ Rows.uptoBulkAll l
  | [] => Nat.zero_le _
  | d :: l => by
    have h1 := bk_one d
    have h2 := bk_len l
    simp only [Rows.uptoBulkAll, List.length_cons]; omega
theorem bk_slice (es sp : List (DataW H)) : es.length + 1 ≤ Rows.uptoBulk (.slice es sp) := by
  have := bk_len es
  simp only [Rows.uptoBulk]; omega
variable {enc : TypeId × Value → H} {P : Program} {w : World} {base : Nat} {spare : Nat → Bool} {held : Bool}
theorem rb_len {c : Zone} {a : Option Addr} {n cap : Nat} {l : List UInt8} (h : RB c (.slice a n cap) l) : l.length = n := by
  obtain ⟨_, A, c2, e, _⟩ := h
  cases e; rfl
theorem open_bytesU {t e : TypeId} {fuel : Nat} {cs : List Value} {x : DataW H × List MemPlace} (ht : P.underlying t = some (.slice e)) (he : P.underlying e = some (.int .u8)) (hc : P.cellsOf e = 1) (hz : P.bytesOf e = 1)
    (h : DataW.trod enc P w base spare held fuel t cs = some x) : ∃ (v : Value) (l : List UInt8), cs = [v] ∧ RB w.cell? v l ∧ l.length + 1 ≤ Rows.uptoBulk x.1 := by
  obtain ⟨v, l, e1, hR, _⟩ := open_bytes ht he hc hz h
  refine ⟨v, l, e1, hR, ?_⟩
  rcases DataW.trod_slice ht h with ⟨rfl, rfl⟩ | ⟨a, len, cap, elems, rest, n, _, rfl, rfl, _, _, _, hlen, _, _, _⟩
  · cases e1
    rw [rb_len hR]; simp [Rows.uptoBulk]
  · cases e1
    rw [rb_len hR]
    have := bk_slice (elems.map (·.1)) (rest.map (·.1))
    simp only [List.length_map] at this
    simp only; omega
theorem open_strU {t : TypeId} {fuel : Nat} {cs : List Value} {x : DataW H × List MemPlace} (ht : P.underlying t = some .string) (h : DataW.trod enc P w base spare held fuel t cs = some x) : ∃ l : List UInt8, cs = [.string (bs l)] ∧ l.length + 1 = Rows.uptoBulk x.1 ∧ l.length ≤ maxLen := by
  obtain ⟨s, rfl, rfl, hs⟩ := DataW.trod_string ht h
  refine ⟨s.data.toList, rfl, ?_, by simpa using hs⟩
  simp [Rows.uptoBulk]
theorem open_rowU {t e : TypeId} {m fuel : Nat} {cs : List Value} {x : DataW H × List MemPlace} (ht : P.underlying t = some (.slice e)) (hm : P.cellsOf e = m) (h : DataW.trod enc P w base spare held fuel t cs = some x) :
    ∃ (v : Value) (L : List (List Value)) (ys : List (DataW H)), cs = [v] ∧ Row w.cell? v m L.length L.flatten ∧ (∀ c ∈ L, c.length = m) ∧ L.length = ys.length ∧
      (∀ (i : Nat) c, L[i]? = some c → ∃ fuel' y, ys[i]? = some y.1 ∧ DataW.trod enc P w base spare held fuel' e c = some y) ∧ Rows.uptoBulkAll ys + 1 ≤ Rows.uptoBulk x.1 := by
  rcases DataW.trod_slice ht h with ⟨rfl, rfl⟩ | ⟨a, len, cap, elems, rest, n, _, rfl, rfl, hb, hl, hmx, hlen, hel, hsp, hns⟩
  · exact ⟨_, [], [], rfl, Row.nil _ _, by simp, rfl, by simp, bk_one _⟩
  have hsome : ∀ i, i < len → ∃ c y, w.cells? base (a.add (i * m)) m = some c ∧ elems[i]? = some y ∧ DataW.trod enc P w base spare held n e c = some y := by
    intro i hi
    have h1 := hel i hi
    rw [hm, List.getElem?_eq_getElem (show i < elems.length by omega), Option.bind_eq_some_iff] at h1
    obtain ⟨c, h2, h3⟩ := h1
    exact ⟨c, _, h2, List.getElem?_eq_getElem (show i < elems.length by omega), h3⟩
  let L := (List.range len).map fun i => (w.cells? base (a.add (i * m)) m).getD []
  have hL : ∀ i, i < len → ∃ c y, L[i]? = some c ∧ w.cells? base (a.add (i * m)) m = some c ∧ elems[i]? = some y ∧ DataW.trod enc P w base spare held n e c = some y := by
    intro i hi
    obtain ⟨c, y, h1, h2, h3⟩ := hsome i hi
    exact ⟨c, y, by simp [L, hi, h1], h1, h2, h3⟩
  have hLl : L.length = len := by simp [L]
  have hlens : ∀ c ∈ L, c.length = m := fun c hc => by
    obtain ⟨i, hi⟩ := List.getElem?_of_mem hc
    have hil : i < len := by have := (List.getElem?_eq_some_iff.1 hi).1; omega
    obtain ⟨c', y, h0, h1, h2, h3⟩ := hL i hil
    rw [hi] at h0; cases h0
    exact (World.cells?_some h1).2.1
  refine ⟨_, L, elems.map (·.1), rfl, ⟨flat_len L m hlens, some a, cap, by rw [hLl], by omega, hmx, fun j u hu => ⟨a, rfl, ?_⟩⟩, hlens, by rw [hLl, List.length_map, hlen], fun i c hi => ?_, ?_⟩
  · have hj : j < L.length * m := by rw [← flat_len L m hlens]; exact (List.getElem?_eq_some_iff.1 hu).1
    have hm0 : 0 < m := by
      rcases Nat.eq_zero_or_pos m with h0 | h0
      · rw [h0] at hj; omega
      · exact h0
    have hi : j / m < len := by rw [← hLl]; exact (Nat.div_lt_iff_lt_mul hm0).2 hj
    have hq : j % m < m := Nat.mod_lt _ hm0
    obtain ⟨c, y, h0, h1, _, _⟩ := hL _ hi
    have hf := flat_get L m hlens (j / m) (j % m) c h0 hq
    have ej : j / m * m + j % m = j := by rw [Nat.mul_comm]; exact Nat.div_add_mod j m
    rw [ej, hu] at hf
    have h2 := (World.cells?_some h1).2.2 (j % m) hq
    rw [← hf, add_add, ej] at h2
    exact h2
  · have hil : i < len := by have := (List.getElem?_eq_some_iff.1 hi).1; omega
    obtain ⟨c', y, h0, h1, h2, h3⟩ := hL i hil
    rw [hi] at h0; cases h0
    exact ⟨n, y, by rw [List.getElem?_map, h2]; rfl, h3⟩
  · simp only [Rows.uptoBulk]; omega
theorem rows_choose {β : Type} {f : β → List Value} {Q : β → Prop} {g : β → Nat} : ∀ (L : List (List Value)) (ys : List (DataW H)), L.length = ys.length → (∀ (i : Nat) c, L[i]? = some c → ∃ y b, ys[i]? = some y ∧ c = f b ∧ Q b ∧ g b ≤ Rows.uptoBulk y) →
    ∃ bs : List β, L = bs.map f ∧ (∀ b ∈ bs, Q b) ∧ (bs.map g).sum ≤ Rows.uptoBulkAll ys
  | [], ys, _, _ => ⟨[], rfl, by simp, Nat.zero_le _⟩
  | c :: L, [], h, _ => by simp at h
  | c :: L, y :: ys, hl, h => by
    obtain ⟨y0, b, e0, e1, hq, hg⟩ := h 0 c rfl
    cases e0
    obtain ⟨bs, e2, hQ, hs⟩ := rows_choose L ys (by simpa using hl) (fun i c hi => h (i + 1) c (by simpa using hi))
    refine ⟨b :: bs, by rw [e1, e2]; rfl, fun x hx => ?_, ?_⟩
    · rcases List.mem_cons.1 hx with rfl | hx
      · exact hq
      · exact hQ x hx
    · simp only [List.map_cons, List.sum_cons, Rows.uptoBulkAll]; omega
end
theorem uStr : Tryz.prog.underlying 9 = some .string := by kernel_rfl
theorem cStr : Tryz.prog.cellsOf 9 = 1 := by kernel_rfl
section
variable {H : Type} {enc : TypeId × Value → H} {w : World} {base : Nat} {spare : Nat → Bool} {held : Bool} {r : Reach} {b0 : Nat} {v : Value} {d : DataW H} {pl : List MemPlace}
end
end Go.Proofs.YtajapgjemefoiaaGreatDoor
/- slices.Sorted(maps.Keys(m)) over a map from strings that the call owns: its keys in order. -/
set_option linter.unusedVariables false
set_option maxRecDepth 100000
namespace Go.Proofs.YtajapgjemefoiaaGreatDoor
open Go Go.RowKit Go.SW Go.Maps Go.Sort
open Go.WideElems (Fit rd rg rd_mk rg_of)
def anyR : Value → Option (DataW Unit × List MemPlace) := fun _ => some (.nil, [])
def unK : Value → List UInt8
  | .string s => s.data.toList
  | _ => []
theorem keyOf_strK {P : Program} {k : TypeId} (hd : P.underlying k = some .string) {x : List UInt8} (hx : x.length ≤ maxLen) : keyOf P k (strK x) = some (.string x) := by
  have h : (bs x).size ≤ maxLen := by rw [bs_size]; exact hx
  unfold bs at h
  simp [keyOf, hd, mapKey, strK, h, bs]
theorem ownsMap_sm {w : World} {P : Program} {k : TypeId} {m : Nat} {l : SEs} (hd : P.underlying k = some .string) (hm : (Own.smap m l).at w) (hl : ∀ p ∈ l, p.1.length ≤ maxLen) (hn : l.length ≤ maxLen) :
    ∃ D0 : DataW Unit, w.ownsMap P k anyR m l.length D0 ∧ (strKeys D0).Perm (l.map (·.1)) ∧ Maps.size D0 = l.length := by
  obtain ⟨es, clock, h1, h2, h3⟩ := hm
  have hsz : es.size = l.length := by have := congrArg List.length h2; simpa using this
  have hmem : ∀ x ∈ es.toList, ∃ p ∈ l, x.key = strK p.1 := by
    intro x hx
    have hx2 : (x.key, x.val) ∈ l.map (fun p => (strK p.1, p.2)) := by rw [← h2]; exact List.mem_map.2 ⟨x, hx, rfl⟩
    obtain ⟨p, hp, e⟩ := List.mem_map.1 hx2
    exact ⟨p, hp, (congrArg Prod.fst e).symm⟩
  have hrd : ∀ x ∈ es.toList, rd P k anyR x = some (.string (unK x.key), .nil) := by
    rintro ⟨key, val, born⟩ hx
    obtain ⟨p, hp, e⟩ := hmem _ hx
    simp only at e
    subst e
    exact rd_mk (R := anyR) (keyOf_strK hd (hl p hp)) rfl
  refine ⟨_, ⟨es, clock, h1, ⟨by omega, h3, fun x hx => ⟨_, hrd x hx⟩⟩, by omega, rfl⟩, ?_, ?_⟩
  · have hp := ((WideShapes.sorted_perm (es.toList.map (rg P k anyR))).map fun p => strOf p.1)
    have e : ((es.toList.map (rg P k anyR)).map fun p => strOf p.1) = l.map (·.1) := by
      rw [List.map_map]
      have e1 : es.toList.map ((fun p : Lit × DataW Unit => strOf p.1) ∘ rg P k anyR) = (es.toList.map (fun e => (e.key, e.val))).map (fun q => unK q.1) := by
        rw [List.map_map]
        refine List.map_congr_left fun x hx => ?_
        simp only [Function.comp_apply, rg_of (hrd x hx), strOf]
      rw [e1, h2, List.map_map]
      refine List.map_congr_left fun x _ => ?_
      simp [strK, unK, bs]
    rw [e] at hp
    exact hp
  · show (((es.toList.map (rg P k anyR)).foldr DataW.insert [])).length = l.length
    rw [length_sorted]; simpa using hsz
theorem MapsKeys_ct (m : Nat) (w : World) : Fun Tryz.prog 54 [.map (some m)] w fun v w' =>
    ∃ b, v = .func (.func 87) #[] #[.pointer (some ⟨b, 0, none⟩)] ∧ Fresh w w' [.blk b 67 [.map (some m)]] := by
  refine Calls.mono (callsIn_wide.1 (Tryz.maps_Keys_54 (some m) w)) ?_
  rintro e w' ⟨rfl, rfl⟩
  exact ⟨_, rfl, w.heap.size, rfl, Fresh.alloc w [.map (some m)] 67⟩
theorem SortedKeys_ct (b m : Nat) (l : SEs) (w : World) (hb : w.cell? ⟨b, 0, none⟩ = some (.map (some m))) (hm : (Own.smap m l).at w) (hl : ∀ p ∈ l, p.1.length ≤ maxLen) (hn : l.length ≤ 1000000) :
    Fun Tryz.prog 53 [.func (.func 87) #[] #[.pointer (some ⟨b, 0, none⟩)]] w fun v w' =>
      ∃ (ss : List (List UInt8)) (v1 : Value), v = v1 ∧ ss.Perm (l.map (·.1)) ∧ Fresh w w' [.row v1 9 1 ss.length ((ss.mergeSort fun x y => decide (x ≤ y)).map fun s => .string (bs s))] := by
  obtain ⟨D0, h1, h2, h3⟩ := ownsMap_sm (P := Tryz.prog) (k := 9) (by kernel_rfl) hm hl (by unfold maxLen; omega)
  have hblt : b < w.heap.size := World.block_lt_of_cell? w ⟨b, 0, none⟩ hb
  have hseq : SeqGives Fence.wide 2 Tryz.prog 87 #[.pointer (some ⟨b, 0, none⟩)] encStr (fun ss => ss.Perm (strKeys D0)) (Maps.size D0) w :=
    AnyZ.keys_gives (ρ := Tryz.keys54_ren) { Tryz.keys54 with } Fence.wide _ trivial rfl (by omega) b m _ D0 w hblt hb h1
  have h4 := AnyZ.sorted_in Tryz.sorted53 Fence.wide 5 trivial trivial trivial trivial rfl (by omega) (Tryz.sorts53 _) (enters_of Tryz.func86 (by kernel_rfl) rfl) 87 #[.pointer (some ⟨b, 0, none⟩)] trivial (enters_of Tryz.func87 (by kernel_rfl) rfl) _ _ (by rw [h3]; unfold maxLen; omega) (by rw [h3]; omega) w hseq
  refine Calls.mono (callsIn_wide.1 h4) ?_
  rintro e w' ⟨v, ss, rfl, hS, hrow, _, hB⟩
  exact ⟨v, rfl, ss, v, rfl, hS.trans h2, Fresh.row hB hrow⟩
end Go.Proofs.YtajapgjemefoiaaGreatDoor
/- Layer 1 (wire): what its functions answer. -/
set_option maxRecDepth 100000
set_option maxHeartbeats 1000000
set_option linter.unusedVariables false
set_option linter.unusedSimpArgs false
namespace Go.Proofs.YtajapgjemefoiaaGreatDoor
open Go.RowKit Go.SW
theorem Len_ct (x : Nat) (w : World) (h1 : x ≤ 18446744073709551615) :
    Fun Tryz.prog 108 [.int .u64 x] w fun v w' => v = (.int .i64 (Lib.bitLen x : Nat)) ∧ Fresh w w' [] := by
  have h := Tryz.bits_Len (x : Int) w (by omega) (by omega)
  refine Calls.mono h ?_
  rintro e w' ⟨rfl, rfl⟩
  exact ⟨_, rfl, rfl, Fresh.none (Below.refl _ _)⟩

theorem Num_ct (N : Nat) (w : World) (hN : N < 9223372036854775808) :
    Fun Tryz.prog 82 [.int .i64 N] w fun v w' => ∃ v1, v = .tuple #[v1, .nilIface] ∧ Fresh w w' [.row v1 5 1 (numB N).length (bv (numB N))] := by
 have hL64 : Lib.bitLen N ≤ 64 := bitLen_le N hN
 refine fun_of_sw Tryz.func82 rfl 35 rfl rfl ?_
 have hH := Hp.start w
 refine sw_sr <| Go0 2 <| Dn <| sw_seq <| sw_sr <| Go1 2 8 (.bool (decide ((N : Int) < (0 : Int)))) <| Dn <| If rfl (fun hc1 => absurd hc1 (by omega)) (fun hc1 => ?_)
 clear hc1
 refine Sk <| sw_sr <| Gc0 2 11 (.int .u64 (IntKind.u64.wrap (N : Int))) (.int .u64 (N : Int)) (cv_u64 (by omega)) <| gl_st (Sc rfl rfl (Len_ct N _ (by omega)) ?_)
 rintro _ w1 ⟨rfl, hF2⟩
 replace hH := hH.call hF2
 refine Gw0 1 13 (((Lib.bitLen N : Nat) : Int) + 7) (((Lib.bitLen N) + 7 : Nat) : Int) <| Gc0 1 14 (.int .i64 (IntKind.i64.wrap (Int.tdiv (((Lib.bitLen N) + 7 : Nat) : Int) 8))) (Ni (numLen N)) (cvq_i64 (by unfold numLen; omega)) <| Go1 1 4 (Ni (numLen N)) <| Dn <| sw_sr ?_
 have hk8 : numLen N ≤ 8 := by unfold numLen; omega
 refine Gw0 2 16 (1 + ((numLen N : Nat) : Int)) ((1 + (numLen N) : Nat) : Int) <| gl_st (st_makeH (e := 5) (zv := .int .u8 0) (bytes := 1) rfl rfl rfl (by kernel_rfl) (by kernel_rfl) rfl (1 + (numLen N)) rfl rfl (by omega) (by unfold maxLen; omega) hH ?_)
 clear hH; intro v3 w4 hH
 obtain ⟨A7, c8, rfl, hl9, hm10⟩ := hH.row_form 0 rfl
 refine Go1 1 5 (.slice A7 (1 + (numLen N)) c8) <| Dn <| sw_sr <| Gc1 3 20 (.int .u8 (IntKind.u8.wrap ((numLen N : Nat) : Int))) (.int .u8 ((numLen N : Nat) : Int)) (cv_u8 (by omega)) 18 (.slice A7 (1 + (numLen N)) c8) ?_
 obtain ⟨b12, hb11, hi13⟩ := hH.row_idx 0 rfl 0 (by omega)
 refine Gq rfl (Ix (e := 5) 1 rfl rfl hi13) <| gl_st (So 0 (.int .u8 ((numLen N : Nat) : Int)) rfl hH rfl rfl hb11 (by simp [bv_length] <;> omega) ?_)
 clear hH; intro w14 hH
 replace hH := hH.row_eq 0 (l' := 1 + (numLen N)) (xs' := bv (numAt N (numLen N) (numLen N))) rfl (rfl) (num_start N _ hk8)
 refine Dn <| sw_seq <| sw_sr <| Go1 2 6 (Ni (numLen N)) <| Dn <| sw_block <| Lp (γ := Nat × Nat) hH (fun (i, n) => [(0, Ni n), (5, .slice A7 (1 + (numLen N)) c8), (6, Ni i)]) (fun (i, n) w_ H_ => (i ≤ numLen N) ∧ (n = N / 256 ^ (numLen N - i)) ∧ H_ [.row (.slice A7 (1 + (numLen N)) c8) 5 1 (1 + (numLen N)) (bv (numAt N (numLen N) i))]) (fun (i, n) => i) (numLen N, N) ?_ ?_
 · exact ⟨Nat.le_refl _, by simp, hH⟩
 clear hH
 rintro ⟨i, n⟩ w15 ⟨hi, hn, hH⟩
 have hn9 : n < 9223372036854775808 := by rw [hn]; exact Nat.lt_of_le_of_lt (Nat.div_le_self _ _) hN
 refine swk [(0, Ni n), (5, .slice A7 (1 + (numLen N)) c8), (6, Ni i)] <| sw_seq <| sw_sr <| Go1 2 24 (.bool (decide ((i : Int) > (0 : Int)))) <| Dn <| If rfl (fun hc2 => ?_) (fun hc2 => ?_)
 refine Sk <| sw_seq <| sw_block <| sw_sr <| Gc2 4 30 (.int .u8 (IntKind.u8.wrap (n : Int))) (.int .u8 (((UInt8.ofNat n).toNat : Nat) : Int)) (cv_byte _) 27 (.slice A7 (1 + (numLen N)) c8) 28 (Ni i) ?_
 obtain ⟨b17, hb16, hi18⟩ := hH.row_idx 0 rfl i (by omega)
 refine Gq rfl (Ix (e := 5) 1 rfl rfl hi18) <| gl_st (So 0 (.int .u8 (((UInt8.ofNat n).toNat : Nat) : Int)) rfl hH rfl rfl hb16 (by rw [bv_length, numAt_length _ _ _ hi]; omega) ?_)
 clear hH; intro w19 hH
 replace hH := hH.row_eq 0 (l' := 1 + (numLen N)) (xs' := bv (numAt N (numLen N) (i - 1))) rfl (rfl) (by rw [Nat.mul_one, bv_set, hn, numAt_step N _ i (by omega) hi])
 refine Dn <| sw_region <| Gc0 2 33 (.int .i64 (Int.fdiv (n : Int) (2 ^ 8))) (Ni (n / 256)) (cv_shr) <| Go1 1 0 (Ni (n / 256)) <| Dd <| bkN <| sw_next <| sw_region <| Gw0 2 26 ((i : Int) - 1) ((i - 1 : Nat) : Int) <| Go1 1 6 (Ni (i - 1)) <| Dd <| rnd_end (g := (i, n)) (i - 1, n / 256) (by kernel_rfl) ?_ ?_
 · exact ⟨by omega, by rw [hn, Nat.div_div_eq_div_mul, ← Nat.pow_succ]; congr 2; omega, hH⟩
 · show (i - 1) < i; omega
 refine sw_exit <| thX <| thX <| bkH <| sw_next <| sw_sr <| Go2 3 2 (.slice A7 (1 + (numLen N)) c8) 3 (.nilIface) <| Dn <| Rt2 rfl rfl rfl ?_
 exact ⟨_, rfl, (hH.row_eq 0 (l' := (numB N).length) (xs' := bv (numB N)) rfl (by rw [numB_length]; omega) (by rw [show i = 0 from by omega, num_end])).fresh⟩
theorem TakeNum_ct (vb : Value) (b : List UInt8) (w : World) (hb : RB w.cell? vb b) :
    Fun Tryz.prog 104 [vb] w fun v w' => v = .tuple #[.int .i64 ((takeNum b).1 : Nat), .int .i64 ((takeNum b).2.1 : Nat), errV (takeNum b).2.2] ∧ Fresh w w' [] := by
 have g0 := gb_lt b 0
 have g1 := gb_lt b 1
 have hbl : b.length ≤ 9223372036854775807 := RB.le hb
 obtain ⟨Ab, cb, rfl, hb1, hb2⟩ := hb.row.form
 refine fun_of_sw Tryz.func104 rfl 61 rfl rfl ?_
 have hH := Hp.start w
 refine sw_sr <| Go0 3 <| Dn <| sw_seq <| sw_sr <| Go1 1 9 (.slice Ab b.length cb) <| Gq rfl (Ln (e := 5) rfl) <| Go1 1 11 (.bool (((b.length : Nat) : Int) == (0 : Int))) <| Dn <| If rfl (fun hc1 => ?_) (fun hc1 => ?_)
 refine sw_sr <| Go3 4 2 (.int .i64 0) 3 (.int .i64 0) 4 (.iface 38 (.int .i64 3)) <| Dn <| Rt3 rfl rfl rfl rfl ?_
 exact ⟨by unfold takeNum; rw [if_pos (by omega)]; rfl, hH.fresh⟩
 refine Sk <| sw_sr ?_
 obtain ⟨p1, hi3, hp2⟩ := hb.row.idx 0 (by omega) (by decide)
 refine Go1 1 13 (.slice Ab b.length cb) <| Gq rfl (Ix (e := 5) 1 rfl rfl hi3) <| Gq rfl (rd_load (by kernel_rfl) rfl (hH.zin _ _ (hp2 0 _ (by decide) (bv_at b 0 (by omega))))) <| Gw0 1 16 ((gb b 0 : Nat) : Int) ((gb b 0 : Nat) : Int) <| Go1 1 5 (Ni (gb b 0)) <| Dn <| sw_sr <| Go1 1 6 (.int .i64 0) <| Dn <| sw_seq <| sw_block <| Cu (γ := Unit) hH (fun _ => [(0, .slice Ab b.length cb), (5, Ni (gb b 0)), (6, .int .i64 0)]) (fun _ w_ H_ => (0 < gb b 0) ∧ (gb b 0 ≤ 8) ∧ (gb b 0 < b.length) ∧ (gb b 0 = 8 → gb b 1 ≤ 127) ∧ H_ []) ?_ ?_
 ·
  refine sw_block <| sw_seq <| sw_block <| sw_seq <| sw_block <| sw_seq <| sw_block <| sw_seq <| sw_seq <| sw_sr <| Go1 3 17 (.bool (decide (((gb b 0 : Nat) : Int) > (8 : Int)))) <| Dn <| If rfl (fun hc2 => ?_) (fun hc2 => ?_)
  refine sw_exit <| thX <| thX <| bkH <| sw_next <| sw_seq <| sw_sr <| Go3 4 2 (.int .i64 0) 3 (.int .i64 0) 4 (.iface 38 (.int .i64 4)) <| Dn <| Rt3 rfl rfl rfl rfl ?_
  exact ⟨by unfold takeNum; rw [if_neg (by omega), if_pos (by omega)]; rfl, hH.fresh⟩
  refine Sk <| sw_seq <| sw_sr <| Go1 1 21 (.slice Ab b.length cb) <| Gq rfl (Ln (e := 5) rfl) <| Go1 3 20 (.bool (decide (((b.length : Nat) : Int) ≤ ((gb b 0 : Nat) : Int)))) <| Dn <| If rfl (fun hc3 => ?_) (fun hc3 => ?_)
  refine sw_exit <| thX <| thX <| bkX rfl <| thX <| bkH <| sw_next <| sw_seq <| sw_sr <| Go3 4 2 (.int .i64 0) 3 (.int .i64 0) 4 (.iface 38 (.int .i64 3)) <| Dn <| Rt3 rfl rfl rfl rfl ?_
  exact ⟨by unfold takeNum; rw [if_neg (by omega), if_neg (by omega), if_pos (by omega)]; rfl, hH.fresh⟩
  refine Sk <| sw_seq <| sw_sr <| Go1 3 25 (.bool (((gb b 0 : Nat) : Int) == (8 : Int))) <| Dn <| If rfl (fun hc4 => ?_) (fun hc4 => ?_)
  refine sw_exit <| thX <| thX <| bkX rfl <| thX <| bkX rfl <| thX <| bkH <| sw_next <| sw_sr ?_
  obtain ⟨p4, hi6, hp5⟩ := hb.row.idx 1 (by omega) (by decide)
  refine Go1 1 33 (.slice Ab b.length cb) <| Gq rfl (Ix (e := 5) 1 rfl rfl hi6) <| Gq rfl (rd_load (by kernel_rfl) rfl (hH.zin _ _ (hp5 0 _ (by decide) (bv_at b 1 (by omega))))) <| Go1 1 36 (.bool (decide (((gb b 1 : Nat) : Int) > (127 : Int)))) <| Dn <| If rfl (fun hc5 => ?_) (fun hc5 => ?_)
  refine sw_sr <| Go3 4 2 (.int .i64 0) 3 (.int .i64 0) 4 (.iface 38 (.int .i64 4)) <| Dn <| Rt3 rfl rfl rfl rfl ?_
  exact ⟨by unfold takeNum; rw [if_neg (by omega), if_neg (by omega), if_neg (by omega), if_pos (by omega)]; rfl, hH.fresh⟩
  refine sw_skip <| bkN <| Ce (()) ?_
  exact ⟨by omega, by omega, by omega, by omega, hH⟩
  refine Sk <| sw_sr <| Go1 3 28 (.bool (decide (((gb b 0 : Nat) : Int) > (0 : Int)))) <| Dn <| If rfl (fun hc6 => ?_) (fun hc6 => ?_)
  refine sw_exit <| thX <| bkX rfl <| thX <| bkX rfl <| thX <| bkX rfl <| thX <| bkH <| Ce (()) ?_
  exact ⟨by omega, by omega, by omega, by omega, hH⟩
  refine Sk <| sw_exit <| bkX rfl <| thX <| bkX rfl <| thX <| bkX rfl <| thX <| bkX rfl <| thX <| bkH <| sw_next <| sw_sr <| Gw1 3 60 (1 + ((gb b 0 : Nat) : Int)) ((1 + (gb b 0) : Nat) : Int) 58 (.int .i64 0) <| Go3 3 2 (.int .i64 0) 3 (Ni (1 + (gb b 0))) 4 (.nilIface) <| Dn <| Rt3 rfl rfl rfl rfl ?_
  exact ⟨by unfold takeNum; rw [if_neg (by omega), if_neg (by omega), if_neg (by omega), if_neg (by omega), if_neg (by omega), show gb b 0 = 0 from by omega]; rfl, hH.fresh⟩
 clear hH
 rintro _ w7 ⟨k0, k8, kb, k127, hH⟩
 refine swk [(0, .slice Ab b.length cb), (5, Ni (gb b 0)), (6, .int .i64 0)] <| sw_seq <| sw_seq <| sw_sr ?_
 obtain ⟨p8, hi10, hp9⟩ := hb.row.idx 1 (by omega) (by decide)
 refine Go1 1 38 (.slice Ab b.length cb) <| Gq rfl (Ix (e := 5) 1 rfl rfl hi10) <| Gq rfl (rd_load (by kernel_rfl) rfl (hH.zin _ _ (hp9 0 _ (by decide) (bv_at b 1 (by omega))))) <| Go1 1 41 (.bool (((gb b 1 : Nat) : Int) == (0 : Int))) <| Dn <| If rfl (fun hc7 => ?_) (fun hc7 => ?_)
 refine sw_sr <| Go3 4 2 (.int .i64 0) 3 (.int .i64 0) 4 (.iface 38 (.int .i64 4)) <| Dn <| Rt3 rfl rfl rfl rfl ?_
 exact ⟨by unfold takeNum; rw [if_neg (by omega), if_neg (by omega), if_neg (by omega), if_neg (by omega), if_pos (by omega)]; rfl, hH.fresh⟩
 refine Sk <| sw_sr <| Gw1 3 45 (1 + ((gb b 0 : Nat) : Int)) ((1 + (gb b 0) : Nat) : Int) 43 (.slice Ab b.length cb) ?_
 obtain ⟨A11, hk12, hv13⟩ := hb.row.cut (by decide) 1 (1 + (gb b 0)) (by omega) (by omega)
 refine Gq rfl (rd_cut (e := 5) (m := 1) (by kernel_rfl) (by kernel_rfl) rfl (.inr ⟨_, _, rfl, rfl⟩) (.inr ⟨_, _, rfl, rfl⟩) hk12) <| Gq rfl (Ln (e := 5) rfl) <| Go1 1 48 (.int .i64 0) <| Dn <| sw_block <| Lp (γ := Nat) hH (fun j => [(5, Ni (gb b 0)), (6, Ni (beVal ((b.drop 1).take j))), (46, .slice A11 ((1 + (gb b 0)) - 1) (cb - 1)), (47, Ni ((1 + (gb b 0)) - 1)), (48, Ni j)]) (fun j w_ H_ => (j ≤ gb b 0) ∧ H_ []) (fun j => gb b 0 - j) (0) ?_ ?_
 · exact ⟨by omega, hH⟩
 clear hH
 rintro j w14 ⟨hj, hH⟩
 refine swk [(5, Ni (gb b 0)), (6, Ni (beVal ((b.drop 1).take j))), (46, .slice A11 ((1 + (gb b 0)) - 1) (cb - 1)), (47, Ni ((1 + (gb b 0)) - 1)), (48, Ni j)] <| sw_sr <| Go1 1 49 (.bool (decide ((j : Int) < (((1 + (gb b 0)) - 1 : Nat) : Int)))) <| Dn <| sw_seq <| If rfl (fun hc8 => ?_) (fun hc8 => ?_)
 have hbd := tn_bound b (gb b 0) j (by omega) k8 k127 kb
 have gj := gb_lt b (1 + j)
 refine Sk <| sw_seq <| sw_block <| sw_sr ?_
 obtain ⟨p15, hi17, hp16⟩ := hv13.idx j (by omega) (by decide)
 refine Gq rfl (Ix (e := 5) 1 rfl rfl hi17) <| Gq rfl (rd_load (by kernel_rfl) rfl (hH.zin _ _ (hp16 0 _ (by decide) (by simpa using bv_cut_at b (gb b 0) j (by omega) (by omega))))) <| Go1 1 8 (.int .u8 ((gb b (1 + j) : Nat) : Int)) <| Dn <| sw_region <| Gc0 2 53 (.int .i64 (IntKind.i64.wrap (((beVal ((b.drop 1).take j) : Nat) : Int) * 2 ^ 8))) (Ni ((beVal ((b.drop 1).take j)) * 256)) (cv_shl_i64 (by omega)) <| Gw0 2 55 ((gb b (1 + j) : Nat) : Int) ((gb b (1 + j) : Nat) : Int) <| Gc0 1 56 (.int .i64 (IntKind.i64.wrap (((BitVec.ofInt 64 (((beVal ((b.drop 1).take j)) * 256 : Nat) : Int) ||| BitVec.ofInt 64 ((gb b (1 + j) : Nat) : Int)).toNat : Nat) : Int))) (Ni (beVal ((b.drop 1).take (j + 1)))) (by rw [cv_or_low gj hbd, take_snoc b j (by omega), beVal_snoc, Nat.add_comm 1 j]; rfl) <| Go1 1 6 (Ni (beVal ((b.drop 1).take (j + 1)))) <| Dd <| bkN <| sw_next <| sw_region <| Gw0 1 57 ((j : Int) + 1) ((j + 1 : Nat) : Int) <| Go1 1 48 (Ni (j + 1)) <| Dd <| rnd_end (g := (j)) (j + 1) (by kernel_rfl) ?_ ?_
 · exact ⟨by omega, hH⟩
 · show gb b 0 - (j + 1) < gb b 0 - j; omega
 refine sw_exit <| thX <| thX <| bkH <| sw_next <| sw_exit <| bkH <| sw_next <| sw_sr <| Gw1 3 60 (1 + ((gb b 0 : Nat) : Int)) ((1 + (gb b 0) : Nat) : Int) 58 (Ni (beVal ((b.drop 1).take j))) <| Go3 3 2 (Ni (beVal ((b.drop 1).take j))) 3 (Ni (1 + (gb b 0))) 4 (.nilIface) <| Dn <| Rt3 rfl rfl rfl rfl ?_
 obtain rfl : j = gb b 0 := by omega
 exact ⟨by unfold takeNum; rw [if_neg (by omega), if_neg (by omega), if_neg (by omega), if_neg (by omega), if_neg (by omega)]; rfl, hH.fresh⟩
theorem Blob_ct (vp : Value) (p : List UInt8) (w : World) (hp : RB w.cell? vp p) :
    Fun Tryz.prog 83 [vp] w fun v w' => ∃ v1, v = .tuple #[v1, errV (if 65536 < p.length then 2 else 0)] ∧ Fresh w w' [.row v1 5 1 (blobB p).length (bv (blobB p))] := by
 have hpl : p.length ≤ 9223372036854775807 := RB.le hp
 have hnb := numB_le p.length
 obtain ⟨Ap, cp, rfl, hp1, hp2⟩ := hp.row.form
 refine fun_of_sw Tryz.func83 rfl 20 rfl rfl ?_
 have hH := Hp.start w
 refine sw_sr <| Go0 2 <| Dn <| sw_seq <| sw_sr <| Go1 1 6 (.slice Ap p.length cp) <| Gq rfl (Ln (e := 5) rfl) <| Go1 1 8 (.bool (decide (((p.length : Nat) : Int) > (65536 : Int)))) <| Dn <| If rfl (fun hc1 => ?_) (fun hc1 => ?_)
 refine sw_sr <| Go2 3 2 (.slice none 0 0) 3 (.iface 38 (.int .i64 2)) <| Dn <| Rt2 rfl rfl rfl ?_
 exact ⟨_, by rw [if_pos (by omega)]; rfl, (hH.nilRow 5 1).cast (by simp [blobB, show 65536 < p.length from by omega, bv]) |>.fresh⟩
 refine Sk <| sw_sr <| Go1 1 11 (.slice Ap p.length cp) <| Gq rfl (Ln (e := 5) rfl) <| gl_st (Sc rfl rfl (Num_ct p.length _ (by omega)) ?_)
 rintro _ w3 ⟨v1, rfl, hF4⟩
 replace hH := hH.call hF4
 obtain ⟨A5, c6, rfl, hl7, hm8⟩ := hH.row_form 0 rfl
 refine Go2 5 4 (.slice A5 ((numB p.length).length) c6) 5 (.nilIface) <| Dn <| sw_sr <| Go2 2 16 (.slice A5 ((numB p.length).length) c6) 17 (.slice Ap p.length cp) <| gl_st (Apd (e := 5) (.int .u8 0) 1 1 0 rfl hH rfl rfl rfl (hp.row.mono hH.zin) (bv_one _) (by unfold maxLen; omega) (by omega) ?_)
 clear hH; intro v9 w10 hH
 replace hH := hH.row_eq 0 (l' := ((numB p.length) ++ p).length) (xs' := bv ((numB p.length) ++ p)) rfl (by simp only [List.length_append, List.length_cons, List.length_nil] <;> omega) ((bv_append _ _).symm)
 obtain ⟨A11, c12, rfl, hl13, hm14⟩ := hH.row_form 0 rfl
 refine Go2 3 2 (.slice A11 (((numB p.length) ++ p).length) c12) 3 (.nilIface) <| Dn <| Rt2 rfl rfl rfl ?_
 exact ⟨_, by rw [if_neg (by omega)]; rfl, (hH.cast (by simp [blobB, show ¬ 65536 < p.length from by omega, bv_append])).fresh⟩
theorem TakeBlob_ct (vb : Value) (b : List UInt8) (w : World) (hb : RB w.cell? vb b) :
    Fun Tryz.prog 106 [vb] w fun v w' => ∃ v1, v = .tuple #[v1, .int .i64 ((takeBlob b).2.1 : Nat), errV (takeBlob b).2.2] ∧ Fresh w w' [.row v1 5 1 (takeBlob b).1.length (bv (takeBlob b).1)] := by
 have hbl : b.length ≤ 9223372036854775807 := RB.le hb
 have hu := takeNum_used b
 obtain ⟨Ab, cb, rfl, hb1, hb2⟩ := hb.row.form
 refine fun_of_sw Tryz.func106 rfl 40 rfl rfl ?_
 have hH := Hp.start w
 refine sw_sr <| Go0 3 <| Dn <| sw_sr <| Go1 1 9 (.slice Ab b.length cb) <| gl_st (Sc rfl rfl (TakeNum_ct _ _ _ (hb.mono hH.zin)) ?_)
 rintro _ w1 ⟨rfl, hF2⟩
 replace hH := hH.call hF2
 refine Go3 7 5 (Ni ((takeNum b).1)) 6 (Ni ((takeNum b).2.1)) 7 (errV ((takeNum b).2.2)) <| Dn <| sw_seq <| sw_block <| sw_sr <| Go1 1 15 (errV ((takeNum b).2.2)) <| Gq rfl (rd_err_ne (by kernel_rfl) rfl) <| Go1 1 14 (.bool (((takeNum b).2.2) != 0)) <| Dn <| If rfl (fun hc1 => ?_) (fun hc1 => ?_)
 refine sw_sr <| Go3 4 2 (.slice none 0 0) 3 (.int .i64 0) 4 (errV ((takeNum b).2.2)) <| Dn <| Rt3 rfl rfl rfl rfl ?_
 exact ⟨_, by unfold takeBlob; rw [if_pos (by omega)]; rfl, (hH.nilRow 5 1).cast (by unfold takeBlob; rw [if_pos (by omega)]; rfl) |>.fresh⟩
 refine sw_sr <| Go1 3 18 (.bool (decide ((((takeNum b).1 : Nat) : Int) > (65536 : Int)))) <| Dn <| If rfl (fun hc2 => ?_) (fun hc2 => ?_)
 refine sw_sr <| Go3 4 2 (.slice none 0 0) 3 (.int .i64 0) 4 (.iface 38 (.int .i64 2)) <| Dn <| Rt3 rfl rfl rfl rfl ?_
 exact ⟨_, by unfold takeBlob; rw [if_neg (by omega), if_pos (by omega)]; rfl, (hH.nilRow 5 1).cast (by unfold takeBlob; rw [if_neg (by omega), if_pos (by omega)]; rfl) |>.fresh⟩
 refine sw_sr <| Go2 2 23 (Ni ((takeNum b).1)) 24 (.slice Ab b.length cb) <| Gq rfl (Ln (e := 5) rfl) <| Gw0 2 27 (((b.length : Nat) : Int) - (((takeNum b).2.1 : Nat) : Int)) ((b.length - (takeNum b).2.1 : Nat) : Int) <| Go1 2 22 (.bool (decide ((((takeNum b).1 : Nat) : Int) > ((b.length - (takeNum b).2.1 : Nat) : Int)))) <| Dn <| If rfl (fun hc3 => ?_) (fun hc3 => ?_)
 refine sw_sr <| Go3 4 2 (.slice none 0 0) 3 (.int .i64 0) 4 (.iface 38 (.int .i64 3)) <| Dn <| Rt3 rfl rfl rfl rfl ?_
 exact ⟨_, by unfold takeBlob; rw [if_neg (by omega), if_neg (by omega), if_pos (by omega)]; rfl, (hH.nilRow 5 1).cast (by unfold takeBlob; rw [if_neg (by omega), if_neg (by omega), if_pos (by omega)]; rfl) |>.fresh⟩
 refine sw_skip <| bkN <| sw_next <| sw_sr <| Gw2 5 34 ((((takeNum b).2.1 : Nat) : Int) + (((takeNum b).1 : Nat) : Int)) (((takeNum b).2.1 + (takeNum b).1 : Nat) : Int) 30 (.slice Ab b.length cb) 31 (Ni ((takeNum b).2.1)) ?_
 obtain ⟨A3, hk4, hv5⟩ := hb.row.cut (by decide) ((takeNum b).2.1) ((takeNum b).2.1 + (takeNum b).1) (by omega) (by omega)
 refine Gq rfl (rd_cut (e := 5) (m := 1) (by kernel_rfl) (by kernel_rfl) rfl (.inr ⟨_, _, rfl, rfl⟩) (.inr ⟨_, _, rfl, rfl⟩) hk4) ?_
 have hr6 := RB.cut hv5 (by omega)
 have hcl : ((b.drop (takeNum b).2.1).take ((takeNum b).2.1 + (takeNum b).1 - (takeNum b).2.1)).length = (takeNum b).1 := by simp; omega
 replace hH := hH.nilRow 5 1
 refine gl_st (Apd (e := 5) (.int .u8 0) 1 1 0 rfl hH rfl rfl rfl (hr6.row.mono hH.zin) (bv_one _) (by unfold maxLen; omega) (by omega) ?_)
 clear hH; intro v7 w8 hH
 replace hH := hH.row_eq 0 (l' := ((b.drop ((takeNum b).2.1)).take (((takeNum b).2.1 + (takeNum b).1) - ((takeNum b).2.1))).length) (xs' := bv ((b.drop ((takeNum b).2.1)).take (((takeNum b).2.1 + (takeNum b).1) - ((takeNum b).2.1)))) rfl (Nat.zero_add _) (List.nil_append _)
 obtain ⟨A9, c10, rfl, hl11, hm12⟩ := hH.row_form 0 rfl
 refine Gw0 3 39 ((((takeNum b).2.1 : Nat) : Int) + (((takeNum b).1 : Nat) : Int)) ((((takeNum b).2.1) + ((takeNum b).1) : Nat) : Int) <| Go3 3 2 (.slice A9 (((b.drop ((takeNum b).2.1)).take (((takeNum b).2.1 + (takeNum b).1) - ((takeNum b).2.1))).length) c10) 3 (Ni (((takeNum b).2.1) + ((takeNum b).1))) 4 (.nilIface) <| Dn <| Rt3 rfl rfl rfl rfl ?_
 exact ⟨_, by unfold takeBlob; rw [if_neg (by omega), if_neg (by omega), if_neg (by omega)]; rfl, (hH.cast (by unfold takeBlob; rw [if_neg (by omega), if_neg (by omega), if_neg (by omega)]; simp [Nat.add_sub_cancel_left])).fresh⟩
theorem Put4_ct (v vb : Value) (n : Nat) (xs : List UInt8) (o l N : Nat) (w : World) (hM : Mine w [.row v 5 1 n (bv xs)]) (hW : Win v vb 1 o l) (h4 : 4 ≤ l) (hn : n = xs.length) (hl : o + l ≤ n) (hN : N < 9223372036854775808) :
    Fun Tryz.prog 112 [vb, .int .i64 N] w fun r w' => r = .tuple #[] ∧ Turn w w' [.row v 5 1 n (bv xs)] [.row v 5 1 n (bv (patch xs o (four N)))] := by
 have hW2 := hW
 obtain ⟨Ab, cb, rfl, -⟩ := hW2
 refine fun_of_sw Tryz.func112 rfl 23 rfl rfl ?_
 have hH := Hp.start_mine hM
 refine sw_region <| glo 6 [(1, Ni N), (4, .slice Ab l cb), (5, .slice Ab l cb), (6, .slice Ab l cb), (7, .slice Ab l cb), (9, .int .i64 (Int.fdiv (N : Int) (2 ^ 24)))] <| gl_cv 9 (Ni (N / 16777216)) (cv_shr) rfl <| Gc0 1 10 (.int .u8 (IntKind.u8.wrap ((N / 16777216 : Nat) : Int))) (.int .u8 (((UInt8.ofNat (N / 16777216)).toNat : Nat) : Int)) (cv_byte _) <| Gc0 2 12 (.int .i64 (Int.fdiv (N : Int) (2 ^ 16))) (Ni (N / 65536)) (cv_shr) <| Gc0 1 13 (.int .u8 (IntKind.u8.wrap ((N / 65536 : Nat) : Int))) (.int .u8 (((UInt8.ofNat (N / 65536)).toNat : Nat) : Int)) (cv_byte _) <| Gc0 2 15 (.int .i64 (Int.fdiv (N : Int) (2 ^ 8))) (Ni (N / 256)) (cv_shr) <| Gc0 1 16 (.int .u8 (IntKind.u8.wrap ((N / 256 : Nat) : Int))) (.int .u8 (((UInt8.ofNat (N / 256)).toNat : Nat) : Int)) (cv_byte _) <| Gc0 2 18 (.int .u8 (IntKind.u8.wrap (N : Int))) (.int .u8 (((UInt8.ofNat N).toNat : Nat) : Int)) (cv_byte _) ?_
 obtain ⟨b2, hb1, hi3⟩ := hW.idx 0 (by omega)
 refine Gq rfl (Ix (e := 5) 1 rfl rfl hi3) <| gl_st (So 0 (.int .u8 (((UInt8.ofNat (N / 16777216)).toNat : Nat) : Int)) rfl hH rfl rfl hb1 (by simp [bv_length] <;> omega) ?_)
 clear hH; intro w4 hH
 obtain ⟨b6, hb5, hi7⟩ := hW.idx 1 (by omega)
 refine Gq rfl (Ix (e := 5) 1 rfl rfl hi7) <| gl_st (So 0 (.int .u8 (((UInt8.ofNat (N / 65536)).toNat : Nat) : Int)) rfl hH rfl rfl hb5 (by simp [bv_length] <;> omega) ?_)
 clear hH; intro w8 hH
 obtain ⟨b10, hb9, hi11⟩ := hW.idx 2 (by omega)
 refine Gq rfl (Ix (e := 5) 1 rfl rfl hi11) <| gl_st (So 0 (.int .u8 (((UInt8.ofNat (N / 256)).toNat : Nat) : Int)) rfl hH rfl rfl hb9 (by simp [bv_length] <;> omega) ?_)
 clear hH; intro w12 hH
 obtain ⟨b14, hb13, hi15⟩ := hW.idx 3 (by omega)
 refine Gq rfl (Ix (e := 5) 1 rfl rfl hi15) <| gl_st (So 0 (.int .u8 (((UInt8.ofNat N).toNat : Nat) : Int)) rfl hH rfl rfl hb13 (by simp [bv_length] <;> omega) ?_)
 clear hH; intro w16 hH
 refine Dd <| end0 rfl ?_
 exact ⟨rfl, (hH.row_eq 0 rfl rfl (put4_eq xs o N (by omega))).turned⟩
theorem Get4_ct (vb : Value) (b : List UInt8) (w : World) (hb : RB w.cell? vb b) (h4 : 4 ≤ b.length) :
    Fun Tryz.prog 129 [vb] w fun v w' => v = .int .i64 (get4 b : Nat) ∧ Fresh w w' [] := by
 have g0 := gb_lt b 0
 have g1 := gb_lt b 1
 have g2 := gb_lt b 2
 have g3 := gb_lt b 3
 obtain ⟨Ab, cb, rfl, hb1, hb2⟩ := hb.row.form
 refine fun_of_sw Tryz.func129 rfl 25 rfl rfl ?_
 have hH := Hp.start w
 refine sw_sr <| Go0 1 <| Dn <| sw_seq <| Dr hH sln ?_
 clear hH; intro w1 hH hS9
 obtain ⟨p2, hi4, hp3⟩ := hb.row.idx 0 (by omega) (by decide)
 refine Gp1 1 [0] 3 (.slice Ab b.length cb) hS9 <| Dq 1 rfl (fun _ hS => (Ix (e := 5) 1 rfl rfl hi4)) hS9 <| Dq 2 rfl (fun _ hS => (rd_load (by kernel_rfl) rfl (hS.zin _ _ (hp3 0 _ (by decide) (bv_at b 0 (by omega)))))) hS9 <| Dw0 1 [3] 6 ((gb b 0 : Nat) : Int) ((gb b 0 : Nat) : Int) hS9 <| Dc0 1 [4] 7 (.int .i64 (IntKind.i64.wrap (((gb b 0 : Nat) : Int) * 2 ^ 24))) (Ni ((gb b 0) * 16777216)) (cv_shl_i64 (by omega)) hS9 ?_
 obtain ⟨p5, hi7, hp6⟩ := hb.row.idx 1 (by omega) (by decide)
 refine Gp1 1 [5] 8 (.slice Ab b.length cb) hS9 <| Dq 6 rfl (fun _ hS => (Ix (e := 5) 1 rfl rfl hi7)) hS9 <| Dq 7 rfl (fun _ hS => (rd_load (by kernel_rfl) rfl (hS.zin _ _ (hp6 0 _ (by decide) (bv_at b 1 (by omega)))))) hS9 <| Dw0 1 [8] 11 ((gb b 1 : Nat) : Int) ((gb b 1 : Nat) : Int) hS9 <| Dc0 1 [9] 12 (.int .i64 (IntKind.i64.wrap (((gb b 1 : Nat) : Int) * 2 ^ 16))) (Ni ((gb b 1) * 65536)) (cv_shl_i64 (by omega)) hS9 <| Dc0 1 [10] 13 (.int .i64 (IntKind.i64.wrap (((BitVec.ofInt 64 (((gb b 0) * 16777216 : Nat) : Int) ||| BitVec.ofInt 64 (((gb b 1) * 65536 : Nat) : Int)).toNat : Nat) : Int))) (Ni (gb b 0 * 16777216 + gb b 1 * 65536)) (by rw [cv_or_i64 (by omega) (by omega), get4_or1]) hS9 ?_
 obtain ⟨p8, hi10, hp9⟩ := hb.row.idx 2 (by omega) (by decide)
 refine Gp1 1 [11] 14 (.slice Ab b.length cb) hS9 <| Dq 12 rfl (fun _ hS => (Ix (e := 5) 1 rfl rfl hi10)) hS9 <| Dq 13 rfl (fun _ hS => (rd_load (by kernel_rfl) rfl (hS.zin _ _ (hp9 0 _ (by decide) (bv_at b 2 (by omega)))))) hS9 <| Dw0 1 [14] 17 ((gb b 2 : Nat) : Int) ((gb b 2 : Nat) : Int) hS9 <| Dc0 1 [15] 18 (.int .i64 (IntKind.i64.wrap (((gb b 2 : Nat) : Int) * 2 ^ 8))) (Ni ((gb b 2) * 256)) (cv_shl_i64 (by omega)) hS9 <| Dc0 1 [16] 19 (.int .i64 (IntKind.i64.wrap (((BitVec.ofInt 64 ((gb b 0 * 16777216 + gb b 1 * 65536 : Nat) : Int) ||| BitVec.ofInt 64 (((gb b 2) * 256 : Nat) : Int)).toNat : Nat) : Int))) (Ni (gb b 0 * 16777216 + gb b 1 * 65536 + gb b 2 * 256)) (by rw [cv_or_i64 (by omega) (by omega), get4_or2]) hS9 ?_
 obtain ⟨p11, hi13, hp12⟩ := hb.row.idx 3 (by omega) (by decide)
 refine Gp1 1 [17] 20 (.slice Ab b.length cb) hS9 <| Dq 18 rfl (fun _ hS => (Ix (e := 5) 1 rfl rfl hi13)) hS9 <| Dq 19 rfl (fun _ hS => (rd_load (by kernel_rfl) rfl (hS.zin _ _ (hp12 0 _ (by decide) (bv_at b 3 (by omega)))))) hS9 <| Dw0 1 [20] 23 ((gb b 3 : Nat) : Int) ((gb b 3 : Nat) : Int) hS9 <| Dc0 1 [21] 24 (.int .i64 (IntKind.i64.wrap (((BitVec.ofInt 64 ((gb b 0 * 16777216 + gb b 1 * 65536 + gb b 2 * 256 : Nat) : Int) ||| BitVec.ofInt 64 ((gb b 3 : Nat) : Int)).toNat : Nat) : Int))) (Ni (get4 b)) (by rw [cv_or_i64 (by omega) (by omega), get4_or3]) hS9 <| Gp1 1 [22] 2 (Ni (get4 b)) hS9 <| gdn [(2, Ni (get4 b))] <| sw_next <| Rt1 rfl rfl ?_
 exact ⟨rfl, hH.fresh⟩
theorem Sum_ct (vb : Value) (b : List UInt8) (w : World) (hb : RB w.cell? vb b) :
    Fun Tryz.prog 113 [vb] w fun v w' => v = .int .i64 (crc b : Nat) ∧ Fresh w w' [] := by
 have hbl : b.length ≤ 9223372036854775807 := RB.le hb
 have hcrc := crc_lt b
 have hcrc0 := crc0_lt b
 obtain ⟨Ab, cb, rfl, hb1, hb2⟩ := hb.row.form
 refine fun_of_sw Tryz.func113 rfl 56 rfl rfl ?_
 have hH := Hp.start w
 refine sw_sr <| Go0 1 <| Dn <| sw_sr <| gl_st (Alc [.int .u32 0, .int .u32 0, .int .u32 0, .int .u32 0, .int .u32 0, .int .u32 0, .int .u32 0, .int .u32 0, .int .u32 0, .int .u32 0, .int .u32 0, .int .u32 0, .int .u32 0, .int .u32 0, .int .u32 0, .int .u32 0] rfl hH ?_)
 clear hH; intro b1 w2 hH
 refine Dn <| sw_seq <| sw_sr <| Go1 1 9 (.int .i64 0) <| Dn <| sw_block <| Lp (γ := Nat) hH (fun i => [(0, .slice Ab b.length cb), (3, Pp b1 0), (9, Ni i)]) (fun i w_ H_ => (i ≤ 16) ∧ H_ [.blk b1 228 (tabL i)]) (fun i => 16 - i) (0) ?_ ?_
 · exact ⟨by omega, hH⟩
 clear hH
 rintro i w3 ⟨hi, hH⟩
 refine swk [(0, .slice Ab b.length cb), (3, Pp b1 0), (9, Ni i)] <| sw_sr <| Go1 1 10 (.bool (decide ((i : Int) < (16 : Int)))) <| Dn <| sw_seq <| If rfl (fun hc1 => ?_) (fun hc1 => ?_)
 refine Sk <| sw_seq <| sw_block <| sw_sr <| Go1 2 4 (Ni i) <| Dn <| sw_sr <| Gc0 2 13 (.int .u32 (IntKind.u32.wrap (i : Int))) (.int .u32 (i : Int)) (cv_u32 (by omega)) <| Go1 1 5 (.int .u32 (i : Int)) <| Dn <| sw_seq <| sw_sr <| Go1 1 14 (.int .i64 0) <| Dn <| sw_block <| Lp (γ := Nat) hH (fun k => [(0, .slice Ab b.length cb), (3, Pp b1 0), (4, Ni i), (5, .int .u32 ((stepN k i : Nat) : Int)), (9, Ni i), (14, Ni k)]) (fun k w_ H_ => (k ≤ 4) ∧ H_ [.blk b1 228 (tabL i)]) (fun k => 4 - k) (0) ?_ ?_
 · exact ⟨by omega, hH⟩
 clear hH
 rintro k w4 ⟨hk, hH⟩
 have hv := stepN_lt k (v := i) (by omega)
 refine swk [(0, .slice Ab b.length cb), (3, Pp b1 0), (4, Ni i), (5, .int .u32 ((stepN k i : Nat) : Int)), (9, Ni i), (14, Ni k)] <| sw_sr <| Go1 1 15 (.bool (decide ((k : Int) < (4 : Int)))) <| Dn <| sw_seq <| If rfl (fun hc2 => ?_) (fun hc2 => ?_)
 refine Sk <| sw_seq <| sw_block <| sw_region <| Gc0 2 17 (.int .u32 (Int.fdiv ((stepN k i : Nat) : Int) (2 ^ 1))) (.int .u32 (((stepN k i) / 2 : Nat) : Int)) (cv_shr) <| Gc0 2 19 (.int .u32 (IntKind.u32.wrap (((BitVec.ofInt 32 ((stepN k i : Nat) : Int) &&& BitVec.ofInt 32 1).toNat : Nat) : Int))) (.int .u32 ((stepN k i % 2 : Nat) : Int)) (cv_and1 hv) <| Gc0 1 20 (.int .u32 (IntKind.u32.wrap (0 - ((stepN k i % 2 : Nat) : Int)))) (.int .u32 ((stepN k i % 2 * 4294967295 : Nat) : Int)) (cv_negbit _) <| Gc0 1 21 (.int .u32 (IntKind.u32.wrap (((BitVec.ofInt 32 2197175160 &&& BitVec.ofInt 32 ((stepN k i % 2 * 4294967295 : Nat) : Int)).toNat : Nat) : Int))) (.int .u32 ((msk (stepN k i) : Nat) : Int)) (cv_msk _) <| Gc0 1 22 (.int .u32 (IntKind.u32.wrap (((BitVec.ofInt 32 (((stepN k i) / 2 : Nat) : Int) ^^^ BitVec.ofInt 32 ((msk (stepN k i) : Nat) : Int)).toNat : Nat) : Int))) (.int .u32 ((stepN (k + 1) i : Nat) : Int)) (by rw [cv_xor_u32 (by omega) (msk_lt _)]; rfl) <| Go1 1 5 (.int .u32 ((stepN (k + 1) i : Nat) : Int)) <| Dd <| bkN <| sw_next <| sw_region <| Gw0 1 23 ((k : Int) + 1) ((k + 1 : Nat) : Int) <| Go1 1 14 (Ni (k + 1)) <| Dd <| rnd_end (g := (k)) (k + 1) (by kernel_rfl) ?_ ?_
 · exact ⟨by omega, hH⟩
 · show 4 - (k + 1) < 4 - k; omega
 refine sw_exit <| thX <| thX <| bkH <| sw_next <| sw_region <| Go2 2 24 (Ni i) 25 (.int .u32 ((stepN k i : Nat) : Int)) <| Gq rfl (rd_idxA (l := 16) (e := 224) (m := 1) (by kernel_rfl) (by kernel_rfl) rfl i rfl (by omega)) <| gl_st (st_storeK (v := .int .u32 ((stepN k i : Nat) : Int)) 0 rfl rfl rfl hH rfl rfl rfl (by kernel_rfl) rfl (by rw [tabL_length]; omega) ?_)
 clear hH; intro w5 hH
 replace hH := hH.blk_eq 0 (cs' := tabL (i + 1)) rfl (by rw [Nat.zero_add, Nat.mul_one, show k = 4 from by omega]; exact tabL_set i (by omega))
 refine Dd <| bkN <| sw_next <| sw_region <| Gw0 1 27 ((i : Int) + 1) ((i + 1 : Nat) : Int) <| Go1 1 9 (Ni (i + 1)) <| Dd <| rnd_end (g := (i)) (i + 1) (by kernel_rfl) ?_ ?_
 · exact ⟨by omega, hH⟩
 · show 16 - (i + 1) < 16 - i; omega
 refine sw_exit <| thX <| thX <| bkH <| sw_next <| sw_sr <| Go1 1 6 (.int .u32 4294967295) <| Dn <| sw_seq <| sw_sr <| Go1 1 28 (.slice Ab b.length cb) <| Gq rfl (Ln (e := 5) rfl) <| Go1 1 30 (.int .i64 0) <| Dn <| sw_block <| Lp (γ := Nat) hH (fun j => [(3, Pp b1 0), (6, .int .u32 ((crc0 (b.take j) : Nat) : Int)), (28, .slice Ab b.length cb), (29, Ni b.length), (30, Ni j)]) (fun j w_ H_ => (j ≤ b.length) ∧ H_ [.blk b1 228 (tabL i)]) (fun j => b.length - j) (0) ?_ ?_
 · exact ⟨by omega, hH⟩
 clear hH
 rintro j w6 ⟨hj, hH⟩
 have hs := crc0_lt (b.take j)
 have hgj := gb_lt b j
 refine swk [(3, Pp b1 0), (6, .int .u32 ((crc0 (b.take j) : Nat) : Int)), (28, .slice Ab b.length cb), (29, Ni b.length), (30, Ni j)] <| sw_sr <| Go1 1 31 (.bool (decide ((j : Int) < ((b.length : Nat) : Int)))) <| Dn <| sw_seq <| If rfl (fun hc3 => ?_) (fun hc3 => ?_)
 refine Sk <| sw_seq <| sw_block <| sw_sr ?_
 obtain ⟨p7, hi9, hp8⟩ := hb.row.idx j (by omega) (by decide)
 refine Gq rfl (Ix (e := 5) 1 rfl rfl hi9) <| Gq rfl (rd_load (by kernel_rfl) rfl (hH.zin _ _ (hp8 0 _ (by decide) (bv_at b j (by omega))))) <| Go1 1 8 (.int .u8 ((gb b j : Nat) : Int)) <| Dn <| sw_sr <| Gc1 3 36 (.int .u32 (IntKind.u32.wrap ((gb b j : Nat) : Int))) (.int .u32 ((gb b j : Nat) : Int)) (cv_u32 (by omega)) 34 (.int .u32 ((crc0 (b.take j) : Nat) : Int)) <| Gc0 1 37 _ (.int .u32 ((crc0 (b.take j) ^^^ gb b j : Nat) : Int)) (cv_xor_u32 (by omega) (by omega)) <| Go1 1 6 (.int .u32 ((crc0 (b.take j) ^^^ gb b j : Nat) : Int)) <| Dn <| sw_sr ?_
 have hx0 : (crc0 (b.take j) ^^^ gb b j) < 4294967296 := Nat.xor_lt_two_pow (n := 32) hs (by omega)
 have ht1 : tab ((crc0 (b.take j) ^^^ gb b j) % 16) < 4294967296 := stepN_lt 4 (by omega)
 refine Gc0 2 39 (.int .u32 (Int.fdiv ((crc0 (b.take j) ^^^ gb b j : Nat) : Int) (2 ^ 4))) (.int .u32 (((crc0 (b.take j) ^^^ gb b j) / 16 : Nat) : Int)) (cv_shr) <| Gc0 2 41 (.int .u32 (IntKind.u32.wrap (((BitVec.ofInt 32 ((crc0 (b.take j) ^^^ gb b j : Nat) : Int) &&& BitVec.ofInt 32 15).toNat : Nat) : Int))) (.int .u32 (((crc0 (b.take j) ^^^ gb b j) % 16 : Nat) : Int)) (cv_and15 hx0) <| Gq rfl (rd_idxA (l := 16) (e := 224) (m := 1) (by kernel_rfl) (by kernel_rfl) rfl ((crc0 (b.take j) ^^^ gb b j) % 16) rfl (by omega)) <| Gq rfl (Lk 0 hH rfl rfl (by rw [Nat.zero_add, Nat.mul_one, show i = 16 from by omega]; exact tabL_get _ (by omega))) <| Gc0 1 44 (.int .u32 (IntKind.u32.wrap (((BitVec.ofInt 32 (((crc0 (b.take j) ^^^ gb b j) / 16 : Nat) : Int) ^^^ BitVec.ofInt 32 ((tab ((crc0 (b.take j) ^^^ gb b j) % 16) : Nat) : Int)).toNat : Nat) : Int))) (.int .u32 ((nib (crc0 (b.take j) ^^^ gb b j) : Nat) : Int)) (by rw [cv_xor_u32 (by omega) ht1]; rfl) <| Go1 1 6 (.int .u32 ((nib (crc0 (b.take j) ^^^ gb b j) : Nat) : Int)) <| Dn <| sw_region ?_
 have hx1 := nib_lt hx0
 have ht2 : tab (nib (crc0 (b.take j) ^^^ gb b j) % 16) < 4294967296 := stepN_lt 4 (by omega)
 refine Gc0 2 46 (.int .u32 (Int.fdiv ((nib (crc0 (b.take j) ^^^ gb b j) : Nat) : Int) (2 ^ 4))) (.int .u32 (((nib (crc0 (b.take j) ^^^ gb b j)) / 16 : Nat) : Int)) (cv_shr) <| Gc0 2 48 (.int .u32 (IntKind.u32.wrap (((BitVec.ofInt 32 ((nib (crc0 (b.take j) ^^^ gb b j) : Nat) : Int) &&& BitVec.ofInt 32 15).toNat : Nat) : Int))) (.int .u32 ((nib (crc0 (b.take j) ^^^ gb b j) % 16 : Nat) : Int)) (cv_and15 hx1) <| Gq rfl (rd_idxA (l := 16) (e := 224) (m := 1) (by kernel_rfl) (by kernel_rfl) rfl (nib (crc0 (b.take j) ^^^ gb b j) % 16) rfl (by omega)) <| Gq rfl (Lk 0 hH rfl rfl (by rw [Nat.zero_add, Nat.mul_one, show i = 16 from by omega]; exact tabL_get _ (by omega))) <| Gc0 1 51 (.int .u32 (IntKind.u32.wrap (((BitVec.ofInt 32 (((nib (crc0 (b.take j) ^^^ gb b j)) / 16 : Nat) : Int) ^^^ BitVec.ofInt 32 ((tab (nib (crc0 (b.take j) ^^^ gb b j) % 16) : Nat) : Int)).toNat : Nat) : Int))) (.int .u32 ((crc0 (b.take (j + 1)) : Nat) : Int)) (by rw [cv_xor_u32 (by omega) ht2, crc0_step b j (by omega)]; rfl) <| Go1 1 6 (.int .u32 ((crc0 (b.take (j + 1)) : Nat) : Int)) <| Dd <| bkN <| sw_next <| sw_region <| Gw0 1 52 ((j : Int) + 1) ((j + 1 : Nat) : Int) <| Go1 1 30 (Ni (j + 1)) <| Dd <| rnd_end (g := (j)) (j + 1) (by kernel_rfl) ?_ ?_
 · exact ⟨by omega, hH⟩
 · show b.length - (j + 1) < b.length - j; omega
 refine sw_exit <| thX <| thX <| bkH <| sw_next <| sw_sr ?_
 have hjl : j = b.length := by omega
 refine Gc0 2 54 (.int .u32 (IntKind.u32.wrap (((BitVec.ofInt 32 4294967295 ^^^ BitVec.ofInt 32 ((crc0 (b.take j) : Nat) : Int)).toNat : Nat) : Int))) (.int .u32 ((crc b : Nat) : Int)) (cv_crc b j hjl) <| Gw0 1 55 ((crc b : Nat) : Int) ((crc b : Nat) : Int) <| Go1 1 2 (Ni (crc b)) <| Dn <| Rt1 rfl rfl ?_
 exact ⟨rfl, (hH.sb sln).fresh⟩
theorem Frame_ct (vp : Value) (p : List UInt8) (w : World) (hp : RB w.cell? vp p) :
    Fun Tryz.prog 84 [vp] w fun v w' => ∃ v1, v = .tuple #[v1, errV (if 1048576 < p.length then 2 else 0)] ∧ Fresh w w' [.row v1 5 1 (frameO p).length (bv (frameO p))] := by
 have hpl : p.length ≤ 9223372036854775807 := RB.le hp
 obtain ⟨Ap, cp, rfl, hp1, hp2⟩ := hp.row.form
 have hcl := crc_lt (four p.length ++ p)
 refine fun_of_sw Tryz.func84 rfl 32 rfl rfl ?_
 have hH := Hp.start w
 refine sw_sr <| Go0 2 <| Dn <| sw_sr <| Go1 1 6 (.slice Ap p.length cp) <| Gq rfl (Ln (e := 5) rfl) <| Go1 1 4 (Ni p.length) <| Dn <| sw_seq <| sw_sr <| Go1 2 9 (.bool (decide (((p.length : Nat) : Int) > (1048576 : Int)))) <| Dn <| If rfl (fun hc1 => ?_) (fun hc1 => ?_)
 refine sw_sr <| Go2 3 2 (.slice none 0 0) 3 (.iface 38 (.int .i64 2)) <| Dn <| Rt2 rfl rfl rfl ?_
 exact ⟨_, by rw [if_pos (by omega)]; rfl, (hH.nilRow 5 1).cast (by simp [frameO, show 1048576 < p.length from by omega, bv]) |>.fresh⟩
 refine Sk <| sw_sr <| Gw0 2 12 (((p.length : Nat) : Int) + 8) ((p.length + 8 : Nat) : Int) <| gl_st (st_makeH (e := 5) (zv := .int .u8 0) (bytes := 1) rfl rfl rfl (by kernel_rfl) (by kernel_rfl) rfl (p.length + 8) rfl rfl (by omega) (by unfold maxLen; omega) hH ?_)
 clear hH; intro v1 w2 hH
 obtain ⟨A5, c6, rfl, hl7, hm8⟩ := hH.row_form 0 rfl
 replace hH := hH.row_eq 0 (l' := p.length + 8) (xs' := bv (List.replicate (p.length + 8) 0)) rfl (rfl) (bv_zeros _)
 refine Go1 1 5 (.slice A5 (p.length + 8) c6) <| Dn <| sw_sr ?_
 have hW9 := hH.win_self 0 rfl
 refine Go2 2 14 (.slice A5 (p.length + 8) c6) 15 (Ni p.length) ?_
 replace hH : Hp w w2 _ _ ([_] ++ []) := hH
 refine gl_st (Sc rfl rfl (Put4_ct (.slice A5 (p.length + 8) c6) _ (p.length + 8) (List.replicate (p.length + 8) 0) 0 (p.length + 8) p.length _ hH.mine hW9 (by omega) (by simp [patch, four_length] <;> omega) (by omega) (by omega)) ?_)
 rintro _ w10 ⟨rfl, hF11⟩
 replace hH := hH.turns hF11
 replace hH := hH.n1
 replace hH := hH.row_eq 0 (l' := p.length + 8) (xs' := bv (four p.length ++ List.replicate (p.length + 4) 0)) rfl (rfl) (by rw [frame_put])
 refine Dn <| sw_sr ?_
 obtain ⟨A12, hk13, hv14⟩ := hH.row_win 0 rfl 4 (p.length + 8) c6 (by omega) (by omega) (by omega) (by omega)
 refine Go1 1 17 (.slice A5 (p.length + 8) c6) <| Gq rfl (rd_cut (e := 5) (m := 1) (by kernel_rfl) (by kernel_rfl) rfl (.inr ⟨_, _, rfl, rfl⟩) (.inl ⟨rfl, rfl⟩) hk13) <| Go1 1 19 (.slice Ap p.length cp) <| gl_st (st_copyH (e := 5) 0 rfl rfl rfl (by kernel_rfl) (by kernel_rfl) hH rfl rfl hv14 (by omega) rfl (hp.row.mono hH.zin) (bv_one _) ?_)
 clear hH; intro w15 hH
 replace hH := hH.row_eq 0 (l' := p.length + 8) (xs' := bv (four p.length ++ p ++ List.replicate 4 0)) rfl (rfl) (frame_copy p)
 refine Dn <| sw_seq <| Dr hH sln ?_
 clear hH; intro w16 hH hS9
 refine Dw2 3 [0,1,2] 23 (((p.length : Nat) : Int) + 4) ((p.length + 4 : Nat) : Int) 21 (.slice A5 (p.length + 8) c6) 22 (Ni p.length) hS9 ?_
 obtain ⟨A17, hk18, hv19⟩ := hH.row_win 0 rfl (p.length + 4) (p.length + 8) c6 (by omega) (by omega) (by omega) (by omega)
 refine Dq 3 rfl (fun _ hS => (rd_cut (e := 5) (m := 1) (by kernel_rfl) (by kernel_rfl) rfl (.inr ⟨_, _, rfl, rfl⟩) (.inl ⟨rfl, rfl⟩) hk18)) hS9 <| Dw2 3 [4,5,6] 27 (((p.length : Nat) : Int) + 4) ((p.length + 4 : Nat) : Int) 25 (.slice A5 (p.length + 8) c6) 26 (Ni p.length) hS9 ?_
 obtain ⟨A20, hk21, hv22⟩ := hH.row_win 0 rfl 0 (p.length + 4) c6 (by omega) (by omega) (by omega) (by omega)
 refine Dq 7 rfl (fun _ hS => (rd_cut (e := 5) (m := 1) (by kernel_rfl) (by kernel_rfl) rfl (.inl ⟨rfl, rfl⟩) (.inr ⟨_, _, rfl, rfl⟩) hk21)) hS9 <| gds 8 (Sc rfl rfl (by have h1 := Sum_ct _ _ _ (RB.of_win (Win.reads hH 0 rfl hv22 (by omega) (by omega) (by omega)) (by first | omega | (simp <;> omega))); rw [frame_sum] at h1; exact h1) ?_)
 rintro _ w23 ⟨rfl, hF24⟩
 replace hH := hH.call hF24
 refine Nl (hH.sb sln) fun hS9 => ?_
 replace hH : Hp w w23 _ _ ([_] ++ []) := hH
 refine gds 9 (Sc rfl rfl (Put4_ct (.slice A5 (p.length + 8) c6) _ (p.length + 8) (four p.length ++ p ++ List.replicate 4 0) (p.length + 4) ((p.length + 8) - (p.length + 4)) (crc (four p.length ++ p)) _ hH.mine hv19 (by omega) (by simp [patch, four_length] <;> omega) (by omega) (by omega)) ?_)
 rintro _ w25 ⟨rfl, hF26⟩
 replace hH := hH.turns hF26
 replace hH := hH.n1
 refine Nl (hH.sb sln) fun hS9 => gdk [(5, .slice A5 (p.length + 8) c6)] <| gdn [(5, .slice A5 (p.length + 8) c6)] <| sw_next <| sw_sr <| Go2 3 2 (.slice A5 (p.length + 8) c6) 3 (.nilIface) <| Dn <| Rt2 rfl rfl rfl ?_
 exact ⟨_, by rw [if_neg (by omega)]; rfl, (hH.row_eq 0 (l' := (frameO p).length) (xs' := bv (frameO p)) rfl (by simp only [frameO, if_neg (show ¬ 1048576 < p.length by omega), frameB_length]) (by rw [frame_end]; simp only [frameO, if_neg (show ¬ 1048576 < p.length by omega), frameB])).fresh⟩
theorem Open_ct (vb : Value) (b : List UInt8) (w : World) (hb : RB w.cell? vb b) :
    Fun Tryz.prog 102 [vb] w fun v w' => ∃ v1, v = .tuple #[v1, .int .i64 ((openF b).2.1 : Nat), errV (openF b).2.2] ∧ Fresh w w' [.row v1 5 1 (openF b).1.length (bv (openF b).1)] := by
 have hbl : b.length ≤ 9223372036854775807 := RB.le hb
 have hg4 := get4_lt b
 have hcl := crc_lt (b.take (get4 b + 4))
 have hg5 := get4_lt (b.drop (get4 b + 4))
 obtain ⟨Ab, cb, rfl, hb1, hb2⟩ := hb.row.form
 refine fun_of_sw Tryz.func102 rfl 43 rfl rfl ?_
 have hH := Hp.start w
 refine sw_sr <| Go0 3 <| Dn <| sw_seq <| sw_sr <| Go1 1 6 (.slice Ab b.length cb) <| Gq rfl (Ln (e := 5) rfl) <| Go1 1 8 (.bool (decide (((b.length : Nat) : Int) < (4 : Int)))) <| Dn <| If rfl (fun hc1 => ?_) (fun hc1 => ?_)
 refine sw_sr <| Go3 4 2 (.slice none 0 0) 3 (.int .i64 0) 4 (.iface 38 (.int .i64 3)) <| Dn <| Rt3 rfl rfl rfl rfl ?_
 exact ⟨_, by unfold openF; rw [if_pos (by omega)]; rfl, (hH.nilRow 5 1).cast (by unfold openF; rw [if_pos (by omega)]; rfl) |>.fresh⟩
 refine Sk <| sw_sr <| Go1 1 10 (.slice Ab b.length cb) <| gl_st (Sc rfl rfl (Get4_ct _ _ _ (hb.mono hH.zin) (by first | omega | (simp <;> omega))) ?_)
 rintro _ w1 ⟨rfl, hF2⟩
 replace hH := hH.call hF2
 refine Go1 1 5 (Ni (get4 b)) <| Dn <| sw_seq <| sw_block <| sw_sr <| Go1 3 12 (.bool (decide (((get4 b : Nat) : Int) > (1048576 : Int)))) <| Dn <| If rfl (fun hc2 => ?_) (fun hc2 => ?_)
 refine sw_sr <| Go3 4 2 (.slice none 0 0) 3 (.int .i64 0) 4 (.iface 38 (.int .i64 2)) <| Dn <| Rt3 rfl rfl rfl rfl ?_
 exact ⟨_, by unfold openF; rw [if_neg (by omega), if_pos (by omega)]; rfl, (hH.nilRow 5 1).cast (by unfold openF; rw [if_neg (by omega), if_pos (by omega)]; rfl) |>.fresh⟩
 refine sw_sr <| Go1 1 17 (.slice Ab b.length cb) <| Gq rfl (Ln (e := 5) rfl) <| Gw0 1 19 (((b.length : Nat) : Int) - 8) ((b.length : Int) - 8) <| Go1 3 16 (.bool (decide (((b.length : Int) - 8) < ((get4 b : Nat) : Int)))) <| Dn <| If rfl (fun hc3 => ?_) (fun hc3 => ?_)
 refine sw_sr <| Go3 4 2 (.slice none 0 0) 3 (.int .i64 0) 4 (.iface 38 (.int .i64 3)) <| Dn <| Rt3 rfl rfl rfl rfl ?_
 exact ⟨_, by unfold openF; rw [if_neg (by omega), if_neg (by omega), if_pos (by omega)]; rfl, (hH.nilRow 5 1).cast (by unfold openF; rw [if_neg (by omega), if_neg (by omega), if_pos (by omega)]; rfl) |>.fresh⟩
 refine sw_seq <| Dr hH sln ?_
 clear hH; intro w3 hH hS9
 refine Dw2 3 [0,1,2] 26 (((get4 b : Nat) : Int) + 4) (((get4 b) + 4 : Nat) : Int) 24 (.slice Ab b.length cb) 25 (Ni (get4 b)) hS9 ?_
 obtain ⟨A4, hk5, hv6⟩ := hb.row.cut (by decide) 0 ((get4 b) + 4) (by omega) (by omega)
 refine Dq 3 rfl (fun _ hS => (rd_cut (e := 5) (m := 1) (by kernel_rfl) (by kernel_rfl) rfl (.inl ⟨rfl, rfl⟩) (.inr ⟨_, _, rfl, rfl⟩) hk5)) hS9 ?_
 have hr7 := RB.head hv6 (by omega)
 refine Dw2 3 [5,6,7] 31 (((get4 b : Nat) : Int) + 4) (((get4 b) + 4 : Nat) : Int) 29 (.slice Ab b.length cb) 30 (Ni (get4 b)) hS9 ?_
 obtain ⟨A8, hk9, hv10⟩ := hb.row.cut (by decide) ((get4 b) + 4) b.length (by omega) (by omega)
 refine Dq 8 rfl (fun _ hS => (rd_cut (e := 5) (m := 1) (by kernel_rfl) (by kernel_rfl) rfl (.inr ⟨_, _, rfl, rfl⟩) (.inl ⟨rfl, rfl⟩) hk9)) hS9 ?_
 have hr11 := RB.tail hv10
 refine gds 4 (Sc rfl rfl (Sum_ct _ _ _ (hr7.mono hH.zin)) ?_)
 rintro _ w12 ⟨rfl, hF13⟩
 replace hH := hH.call hF13
 refine Nl (hH.sb sln) fun hS9 => gds 9 (Sc rfl rfl (Get4_ct _ _ _ (hr11.mono hH.zin) (by first | omega | (simp <;> omega))) ?_)
 rintro _ w14 ⟨rfl, hF15⟩
 replace hH := hH.call hF15
 refine Nl (hH.sb sln) fun hS9 => Gp1 2 [10,11] 23 (.bool (((crc (b.take ((get4 b) + 4)) : Nat) : Int) != ((get4 (b.drop ((get4 b) + 4)) : Nat) : Int))) hS9 <| gdn [(0, .slice Ab b.length cb), (5, Ni (get4 b)), (23, .bool (((crc (b.take ((get4 b) + 4)) : Nat) : Int) != ((get4 (b.drop ((get4 b) + 4)) : Nat) : Int)))] <| sw_next <| If rfl (fun hc4 => ?_) (fun hc4 => ?_)
 refine sw_sr <| Go3 4 2 (.slice none 0 0) 3 (.int .i64 0) 4 (.iface 38 (.int .i64 5)) <| Dn <| Rt3 rfl rfl rfl rfl ?_
 exact ⟨_, by unfold openF; rw [if_neg (by omega), if_neg (by omega), if_neg (by omega), if_pos (by omega)]; rfl, (hH.nilRow 5 1).cast (by unfold openF; rw [if_neg (by omega), if_neg (by omega), if_neg (by omega), if_pos (by omega)]; rfl) |>.fresh⟩
 refine sw_skip <| bkN <| sw_next <| sw_sr <| Gw1 3 38 (((get4 b : Nat) : Int) + 4) (((get4 b) + 4 : Nat) : Int) 36 (.slice Ab b.length cb) ?_
 obtain ⟨A16, hk17, hv18⟩ := hb.row.cut (by decide) 4 ((get4 b) + 4) (by omega) (by omega)
 refine Gq rfl (rd_cut (e := 5) (m := 1) (by kernel_rfl) (by kernel_rfl) rfl (.inr ⟨_, _, rfl, rfl⟩) (.inr ⟨_, _, rfl, rfl⟩) hk17) ?_
 have hr19 := RB.cut hv18 (by omega)
 have hcl4 : ((b.drop 4).take (get4 b + 4 - 4)).length = get4 b := by simp; omega
 replace hH := hH.nilRow 5 1
 refine gl_st (Apd (e := 5) (.int .u8 0) 1 1 0 rfl hH rfl rfl rfl (hr19.row.mono hH.zin) (bv_one _) (by unfold maxLen; omega) (by omega) ?_)
 clear hH; intro v20 w21 hH
 replace hH := hH.row_eq 0 (l' := ((b.drop 4).take (((get4 b) + 4) - 4)).length) (xs' := bv ((b.drop 4).take (((get4 b) + 4) - 4))) rfl (Nat.zero_add _) (List.nil_append _)
 obtain ⟨A22, c23, rfl, hl24, hm25⟩ := hH.row_form 0 rfl
 refine Gw0 2 42 (((get4 b : Nat) : Int) + 8) (((get4 b) + 8 : Nat) : Int) <| Go3 3 2 (.slice A22 (((b.drop 4).take (((get4 b) + 4) - 4)).length) c23) 3 (Ni ((get4 b) + 8)) 4 (.nilIface) <| Dn <| Rt3 rfl rfl rfl rfl ?_
 exact ⟨_, by unfold openF; rw [if_neg (by omega), if_neg (by omega), if_neg (by omega), if_neg (by omega)]; rfl, (hH.cast (by unfold openF; rw [if_neg (by omega), if_neg (by omega), if_neg (by omega), if_neg (by omega)]; rw [Nat.add_sub_cancel]; rfl)).fresh⟩
end Go.Proofs.YtajapgjemefoiaaGreatDoor
/- Layer 1 (wire): frames, one behind another. Plain mathematics. -/
set_option linter.unusedVariables false
namespace Go.Proofs.YtajapgjemefoiaaGreatDoor
open Go.SW Go.RowKit
theorem openF_used {b : List UInt8} (h : (openF b).2.2 = 0) : 8 ≤ (openF b).2.1 ∧ (openF b).2.1 ≤ b.length ∧ (openF b).1.length + 8 = (openF b).2.1 := by
  unfold openF at h ⊢
  split at h
  · simp at h
  rename_i h1
  split at h
  · simp at h
  rename_i h2
  split at h
  · simp at h
  rename_i h3
  split at h
  · simp at h
  rename_i h4
  rw [if_neg h1, if_neg h2, if_neg h3, if_neg h4]
  refine ⟨by simp only; omega, by simp only; omega, ?_⟩
  simp only [List.length_take, List.length_drop]
  omega
def scanA (b : List UInt8) (k : Nat) : List (List UInt8) × Nat × Nat :=
  if h : b.length ≤ k then ([], k, 0) else
  if h2 : (openF (b.drop k)).2.2 ≠ 0 then ([], k, (openF (b.drop k)).2.2) else
  ((openF (b.drop k)).1 :: (scanA b (k + (openF (b.drop k)).2.1)).1, (scanA b (k + (openF (b.drop k)).2.1)).2)
termination_by b.length - k
decreasing_by all_goals (have := openF_used (Decidable.not_not.1 h2); omega)
theorem scan_end {b : List UInt8} {k : Nat} (h : b.length ≤ k) : scanA b k = ([], k, 0) := by rw [scanA, dif_pos h]
theorem scan_err {b : List UInt8} {k : Nat} (h : k < b.length) (h2 : (openF (b.drop k)).2.2 ≠ 0) : scanA b k = ([], k, (openF (b.drop k)).2.2) := by rw [scanA, dif_neg (by omega), dif_pos h2]
theorem scan_step {b : List UInt8} {k : Nat} (h : k < b.length) (h2 : (openF (b.drop k)).2.2 = 0) : scanA b k = ((openF (b.drop k)).1 :: (scanA b (k + (openF (b.drop k)).2.1)).1, (scanA b (k + (openF (b.drop k)).2.1)).2) := by
  rw [scanA, dif_neg (by omega), dif_neg (by omega)]
abbrev RQ := List (List UInt8 × Value)
def rqC (q : List UInt8 × Value) : List Value := [q.2]
theorem rqC_len (q : List UInt8 × Value) : (rqC q).length = 1 := rfl
def rqO (e : TypeId) (q : List UInt8 × Value) : Own := .row q.2 e 1 q.1.length (bv q.1)
def rqG (e : TypeId) (qs : RQ) : Own := .grp (qs.map (rqO e))
def ScanI (b : List UInt8) (k : Nat) (qs : RQ) : Prop := k ≤ b.length ∧ qs.length * 8 ≤ k ∧ scanA b 0 = (qs.map (·.1) ++ (scanA b k).1, (scanA b k).2)
theorem scanI_start (b : List UInt8) : ScanI b 0 [] := ⟨Nat.zero_le _, Nat.zero_le _, by simp⟩
theorem scanI_step {b : List UInt8} {k : Nat} {qs : RQ} (h : ScanI b k qs) (hk : k < b.length) (h2 : (openF (b.drop k)).2.2 = 0) (v : Value) : ScanI b (k + (openF (b.drop k)).2.1) (qs ++ [((openF (b.drop k)).1, v)]) := by
  obtain ⟨h3, h4, h5⟩ := h
  have hu := openF_used h2
  rw [List.length_drop] at hu
  refine ⟨by omega, by simp only [List.length_append, List.length_cons, List.length_nil]; omega, ?_⟩
  rw [h5, scan_step hk h2]
  simp
theorem scanI_end {b : List UInt8} {k : Nat} {qs : RQ} (h : ScanI b k qs) (hk : b.length ≤ k) : scanA b 0 = (qs.map (·.1), k, 0) := by
  rw [h.2.2, scan_end hk]; simp
theorem scanI_err {b : List UInt8} {k : Nat} {qs : RQ} (h : ScanI b k qs) (hk : k < b.length) (h2 : (openF (b.drop k)).2.2 ≠ 0) : scanA b 0 = (qs.map (·.1), k, (openF (b.drop k)).2.2) := by
  rw [h.2.2, scan_err hk h2]; simp
section
variable {w w0 : World} {z : Zone} {F : List Nat} {r : List Own}
theorem rq_in {qs : RQ} {e : TypeId} {q : List UInt8 × Value} (h : Hp w0 w z F (rqG e qs :: rqO e q :: r)) : Hp w0 w z F (rqG e (qs ++ [q]) :: r) := by
  have h2 : Hp w0 w z F (qs.map (rqO e) ++ (rqO e q :: r)) := Hp.open_ h
  have h3 : Hp w0 w z F ((qs ++ [q]).map (rqO e) ++ r) := h2.cast (by simp)
  exact h3.close
end
end Go.Proofs.YtajapgjemefoiaaGreatDoor
/- Layer 1 (wire), the program's and the document's: Scan: what it answers. -/
set_option maxRecDepth 100000
set_option maxHeartbeats 4000000
set_option linter.unusedVariables false
set_option linter.unusedSimpArgs false
namespace Go.Proofs.YtajapgjemefoiaaGreatDoor
open Go.RowKit Go.SW

theorem Scan_ct (vb : Value) (b : List UInt8) (w : World) (hb : RB w.cell? vb b) (hl : b.length ≤ 4294967296) :
    Fun Tryz.prog 66 [vb] w fun v w' => ∃ v1 qs, v = .tuple #[v1, .int .i64 (((scanA b 0).2.1 : Nat) : Int), errV (scanA b 0).2.2] ∧ (scanA b 0).1 = qs.map (·.1) ∧ Fresh w w' [.row v1 37 1 qs.length (rowC rqC qs), rqG 5 qs] := by
 obtain ⟨Ab, cb, rfl, hb1, hb2⟩ := hb.row.form
 refine fun_of_sw Tryz.func66 rfl 36 rfl rfl ?_
 have hH := Hp.start w
 refine sw_sr <| Go0 3 <| Dn <| sw_sr <| Go1 1 5 (.slice none 0 0) ?_
 replace hH := hH.nilRow 37 1
 replace hH := hH.nogrp
 refine Dn <| sw_sr <| Go1 1 6 (.int .i64 0) <| Dn <| sw_block ?_
 replace hH := (hH.sb (slk (slk sln))).n2
 refine Lp (γ := Nat × RQ × Option Addr × Nat) hH (fun (k, qs, A, c) => [(0, .slice Ab b.length cb), (5, .slice A qs.length c), (6, Ni k)]) (fun (k, qs, A, c) w_ H_ => (ScanI b k qs) ∧ H_ [.row (.slice A qs.length c) 37 1 qs.length (rowC rqC qs), rqG 5 qs]) (fun (k, qs, A, c) => b.length - k) (0, [], none, 0) ?_ ?_
 · exact ⟨scanI_start b, hH⟩
 clear hH
 rintro ⟨k, qs, A, c⟩ w1 ⟨hI, hH⟩
 have hI1 := hI.1
 have hI2 := hI.2.1
 refine swk [(0, .slice Ab b.length cb), (5, .slice A qs.length c), (6, Ni k)] <| sw_block <| sw_seq <| sw_sr <| Go2 2 10 (Ni k) 11 (.slice Ab b.length cb) <| Gq rfl (Ln (e := 5) rfl) <| Go1 1 13 (.bool ((k : Int) == ((b.length : Nat) : Int))) <| Dn <| If rfl (fun hc1 => ?_) (fun hc1 => ?_)
 refine sw_sr <| Go3 5 2 (.slice A qs.length c) 3 (Ni k) 4 (.nilIface) <| Dn <| Rt3 rfl rfl rfl rfl ?_
 replace hH := (hH.sb (slk (slk sln))).n2
 have hs := scanI_end hI (by omega)
 exact ⟨_, qs, by rw [hs] <;> rfl, by rw [hs], hH.fresh⟩
 refine Sk <| sw_sr ?_
 obtain ⟨A2, hk3, hv4⟩ := hb.row.cut (by decide) k b.length (by omega) (by omega)
 refine Go2 2 17 (.slice Ab b.length cb) 18 (Ni k) <| Gq rfl (rd_cut (e := 5) (m := 1) (by kernel_rfl) (by kernel_rfl) rfl (.inr ⟨_, _, rfl, rfl⟩) (.inl ⟨rfl, rfl⟩) hk3) ?_
 have hr5 := RB.tail hv4
 refine gl_st (Sc rfl rfl (Open_ct _ _ _ (hr5.mono hH.zin)) ?_)
 rintro _ w8 ⟨v6, rfl, hF9⟩
 replace hH := hH.call hF9
 obtain ⟨A10, c11, rfl, hl12, hm13⟩ := hH.row_form 2 rfl
 refine Go3 7 7 (.slice A10 (((openF (b.drop k)).1).length) c11) 8 (Ni ((openF (b.drop k)).2.1)) 9 (errV ((openF (b.drop k)).2.2)) <| Dn <| sw_seq <| sw_sr <| Go1 1 24 (errV ((openF (b.drop k)).2.2)) <| Gq rfl (rd_err_ne (by kernel_rfl) rfl) <| Dn <| If rfl (fun hc2 => ?_) (fun hc2 => ?_)
 refine sw_sr <| Go3 6 2 (.slice A qs.length c) 3 (Ni k) 4 (errV ((openF (b.drop k)).2.2)) <| Dn <| Rt3 rfl rfl rfl rfl ?_
 replace hH := (hH.sb (slk (slk sln))).n2
 have hs := scanI_err hI (by omega) (by omega)
 exact ⟨_, qs, by rw [hs] <;> rfl, by rw [hs], hH.fresh⟩
 refine Sk <| sw_sr <| Go2 2 29 (.slice A qs.length c) 30 (.slice A10 (((openF (b.drop k)).1).length) c11) <| gl_st (st_buildS (e := 37) (zv := .slice none 0 0) (m := 1) (bytes := 24) rfl rfl rfl (by kernel_rfl) (by kernel_rfl) rfl (cs := [.slice A10 (((openF (b.drop k)).1).length) c11]) (by kernel_rfl) rfl hH ?_)
 clear hH; intro b14 w15 hH
 refine gl_st (Apd (e := 37) (.slice none 0 0) 1 24 0 rfl hH rfl rfl rfl (hH.row_reads 3 rfl) (by simp [Value.oneCell']) (by unfold maxLen; omega) (by omega) ?_)
 clear hH; intro v16 w17 hH
 replace hH := hH.row_eq 0 (l' := (qs ++ [((openF (b.drop k)).1, (Value.slice A10 (((openF (b.drop k)).1).length) c11))]).length) (xs' := rowC rqC (qs ++ [((openF (b.drop k)).1, (Value.slice A10 (((openF (b.drop k)).1).length) c11))])) rfl (by rw [List.length_append]; rfl) (by rw [← rowC_app]; rfl)
 obtain ⟨A18, c19, rfl, hl20, hm21⟩ := hH.row_form 0 rfl
 refine Go1 1 5 (.slice A18 ((qs ++ [((openF (b.drop k)).1, (Value.slice A10 (((openF (b.drop k)).1).length) c11))]).length) c19) <| Dn ?_
 have hu9 := openF_used (b := b.drop k) (by omega)
 rw [List.length_drop] at hu9
 replace hH := hH.fr3.fr3
 replace hH : Hp w w17 _ _ (rqG 5 qs :: rqO 5 ((openF (b.drop k)).1, (Value.slice A10 (((openF (b.drop k)).1).length) c11)) :: [.row (.slice A18 ((qs ++ [((openF (b.drop k)).1, (Value.slice A10 (((openF (b.drop k)).1).length) c11))]).length) c19) 37 1 ((qs ++ [((openF (b.drop k)).1, (Value.slice A10 (((openF (b.drop k)).1).length) c11))]).length) (rowC rqC (qs ++ [((openF (b.drop k)).1, (Value.slice A10 (((openF (b.drop k)).1).length) c11))])), .row (.slice (some ⟨b14, 0, none⟩) 1 1) 37 1 1 [.slice A10 (((openF (b.drop k)).1).length) c11]]) := hH
 replace hH := rq_in hH
 replace hH : Hp w w17 _ _ [rqG 5 (qs ++ [((openF (b.drop k)).1, (Value.slice A10 (((openF (b.drop k)).1).length) c11))]), .row (.slice A18 ((qs ++ [((openF (b.drop k)).1, (Value.slice A10 (((openF (b.drop k)).1).length) c11))]).length) c19) 37 1 ((qs ++ [((openF (b.drop k)).1, (Value.slice A10 (((openF (b.drop k)).1).length) c11))]).length) (rowC rqC (qs ++ [((openF (b.drop k)).1, (Value.slice A10 (((openF (b.drop k)).1).length) c11))])), .row (.slice (some ⟨b14, 0, none⟩) 1 1) 37 1 1 [.slice A10 (((openF (b.drop k)).1).length) c11]] := hH
 refine sw_region <| Gw0 3 35 ((k : Int) + (((openF (b.drop k)).2.1 : Nat) : Int)) ((k + ((openF (b.drop k)).2.1) : Nat) : Int) <| Go1 1 6 (Ni (k + ((openF (b.drop k)).2.1))) <| Dd <| bkN <| rnd_end (g := (k, qs, A, c)) (k + (openF (b.drop k)).2.1, qs ++ [((openF (b.drop k)).1, (Value.slice A10 (((openF (b.drop k)).1).length) c11))], A18, c19) (by kernel_rfl) ?_ ?_
 replace hH := hH.fr2
 replace hH := (hH.sb (slk (slk sln))).n2
 · exact ⟨scanI_step hI (by omega) (by omega) _, hH⟩
 · show b.length - (k + (openF (b.drop k)).2.1) < b.length - k; have := openF_used (b := b.drop k) (by omega); omega
end Go.Proofs.YtajapgjemefoiaaGreatDoor
/- api.Code: the code of an error: what it answers. -/
set_option maxRecDepth 100000
set_option maxHeartbeats 2000000
set_option linter.unusedVariables false
set_option linter.unusedSimpArgs false
namespace Go.Proofs.YtajapgjemefoiaaGreatDoor
open Go.RowKit Go.SW

theorem Code_ct (e : Nat) (w : World) (hG : w.cell? ⟨0, 0, none⟩ = some errTy) :
    Fun Tryz.prog 21 [errV e] w fun v w' => v = .int .i64 (e : Nat) ∧ Fresh w w' [] := by
 refine fun_of_sw Tryz.func21 rfl 10 rfl rfl ?_
 have hH := Hp.start w
 refine sw_sr <| Go0 1 <| Dn <| sw_seq <| sw_sr <| Go1 1 4 (errV e) <| Gq rfl (rd_err_eq (by kernel_rfl) rfl) <| Dn <| If rfl (fun hc1 => ?_) (fun hc1 => ?_)
 subst hc1
 refine sw_sr <| Go1 1 2 (.int .i64 0) <| Dn <| Rt1 rfl rfl ?_
 exact ⟨rfl, hH.fresh⟩
 refine Sk <| sw_sr <| gl_st (Alc [.int .i64 0] rfl hH ?_)
 clear hH; intro b1 w2 hH
 refine Dn <| sw_seq <| sw_sr <| Go1 1 6 (errV e) <| gl_cv 6 (.iface 38 (Ni e)) (errW_pos hc1) rfl <| Go2 1 6 (.iface 38 (Ni e)) 7 (.iface 122 (Pp b1 0)) ?_
 replace hH : Hp w w2 _ _ ([_] ++ []) := hH
 refine gl_st (Sc rfl rfl (As_ct _ _ _ hH.mine (hH.zoff _ _ hG)) ?_)
 rintro _ w3 ⟨rfl, hF4⟩
 replace hH := hH.turns hF4
 replace hH := hH.n1
 refine Dn <| It <| sw_sr <| Gq rfl (Lk 0 hH rfl rfl rfl) <| Go1 1 2 (Ni e) <| Dn <| Rt1 rfl rfl ?_
 exact ⟨rfl, (hH.sb sln).fresh⟩
end Go.Proofs.YtajapgjemefoiaaGreatDoor
/- Law 1's helpers: Lent, Kept, Owned: what they answer. -/
set_option maxRecDepth 100000
set_option maxHeartbeats 2000000
set_option linter.unusedVariables false
set_option linter.unusedSimpArgs false
namespace Go.Proofs.YtajapgjemefoiaaGreatDoor
open Go.RowKit Go.SW

def obv (j : Nat) : Value := .int .u8 (((UInt8.ofNat (j + 1)).toNat : Nat) : Int)
theorem vs_at (vs : List Value) (j : Nat) (h : j < vs.length) {v : Value} (hv : vs.getD j undef = v) : vs[j * 1 + 0]? = some v := by
  rw [← hv, Nat.mul_one, Nat.add_zero, List.getD_eq_getElem?_getD, List.getElem?_eq_getElem h]; rfl
theorem paint_step {xs : List Value} {k : Nat} {u : Value} (h : xs.take k = List.replicate k u) (hk : k < xs.length) : (xs.set (k * 1) u).take (k + 1) = List.replicate (k + 1) u := by
  rw [Nat.mul_one, List.take_succ_eq_append_getElem (by simpa using hk), List.getElem_set_self, List.take_set_of_le (Nat.le_refl k), h, List.replicate_succ']
theorem rep_at (c k : Nat) (u : Value) (h : k < c) : (List.replicate c u)[k * 1 + 0]? = some u := by
  rw [Nat.mul_one, Nat.add_zero, List.getElem?_replicate, if_pos h]
theorem any_forms {w : World} {e : TypeId} {vs : List Value} (h : (Own.grp (vs.map (anyO e))).at w) (j : Nat) (hj : j < vs.length) : ∃ A l c, vs.getD j undef = .slice A l c ∧ l ≤ c := by
  have h1 : (anyO e (vs.getD j undef)).at w := h _ (List.mem_map.2 ⟨_, by rw [List.getD_eq_getElem?_getD, List.getElem?_eq_getElem hj]; exact List.getElem_mem _, rfl⟩)
  obtain ⟨xs, _, h2⟩ := h1
  rcases h2 with h2 | h2
  · exact ⟨none, 0, 0, h2, Nat.le_refl _⟩
  · exact h2
theorem mixO_same {e : TypeId} {u : Nat → Value} {vs : List Value} {i : Nat} (hi : i < vs.length) : (mixO e u vs vs.length).set i (repO e (u i) (vs.getD i undef)) = mixO e u vs vs.length := by
  apply List.ext_getElem?
  intro j
  rw [List.getElem?_set]
  by_cases hij : i = j
  · subst hij
    rw [if_pos rfl, if_pos (by simpa [mixO] using hi), mixO_get hi, if_pos hi]
  · rw [if_neg hij]

theorem Owned_ct (vr : Value) (vs : List Value) (w : World) (hM : Mine w [.grp (vs.map (anyO 5))]) (hR : Row (off w (blksOf [.grp (vs.map (anyO 5))])) vr 1 vs.length vs) (hn : vs.length ≤ 2000) :
    Fun Tryz.prog 38 [vr] w fun v w' => v = .bool true ∧ Turn w w' [.grp (vs.map (anyO 5))] [] := by
 obtain ⟨Ar, cr, rfl, hR1, hR2⟩ := hR.form
 have hsl := any_forms (hM.1 _ (List.mem_singleton.2 rfl))
 refine fun_of_sw Tryz.func38 rfl 67 rfl rfl ?_
 have hH := (Hp.start_mine hM).cast (os' := [.grp (mixO 5 obv vs 0)]) (by rw [mixO_zero])
 refine sw_sr <| Go0 1 <| Dn <| sw_seq <| sw_sr <| Go1 1 3 (.int .i64 0) <| Dn <| sw_block <| Lp (γ := Nat) hH (fun i => [(0, .slice Ar vs.length cr), (3, Ni i)]) (fun i w_ H_ => (i ≤ vs.length) ∧ H_ [.grp (mixO 5 obv vs i)]) (fun i => vs.length - i) (0) ?_ ?_
 · exact ⟨by omega, hH⟩
 clear hH
 rintro i w1 ⟨hi, hH⟩
 refine swk [(0, .slice Ar vs.length cr), (3, Ni i)] <| sw_seq <| sw_sr <| Go2 2 9 (Ni i) 10 (.slice Ar vs.length cr) <| Gq rfl (Ln (e := 37) rfl) <| Go1 1 12 (.bool (decide ((i : Int) < ((vs.length : Nat) : Int)))) <| Dn <| If rfl (fun hc1 => ?_) (fun hc1 => ?_)
 refine Sk <| sw_seq <| sw_block <| sw_seq ?_
 replace hH := hH.out i ((mixO_get (by omega)).trans (by rw [if_neg (by omega)]))
 obtain ⟨A2, l3, c4, xs7, hv5, hlc6, hH⟩ := any_row hH
 have hlen := (hH.row_at 0 rfl).1
 replace hH : Hp w w1 _ _ [.row (.slice A2 c4 c4) 5 1 c4 xs7, .grp ((mixO 5 obv vs i).eraseIdx i)] := hH
 have hcm : c4 ≤ 9223372036854775807 := by obtain ⟨_, _, e9, -, h9⟩ := hH.row_form 0 rfl; cases e9; simpa [maxLen] using h9
 refine Dr hH (slk (slk sln)) ?_
 clear hH; intro w8 hH hS9
 obtain ⟨p9, hi11, hp10⟩ := hR.idx i (by omega) (by decide)
 refine Gp2 2 [0,1] 15 (.slice Ar vs.length cr) 16 (Ni i) hS9 <| Dq 2 rfl (fun _ hS => (Ix (e := 37) 1 rfl rfl hi11)) hS9 <| Dq 3 rfl (fun _ hS => (rd_load (by kernel_rfl) rfl (hS.zin _ _ (hp10 0 _ (by decide) (vs_at vs i (by omega) hv5))))) hS9 ?_
 obtain ⟨p12, hi14, hp13⟩ := hR.idx i (by omega) (by decide)
 refine Gp2 2 [4,5] 19 (.slice Ar vs.length cr) 20 (Ni i) hS9 <| Dq 6 rfl (fun _ hS => (Ix (e := 37) 1 rfl rfl hi14)) hS9 <| Dq 7 rfl (fun _ hS => (rd_load (by kernel_rfl) rfl (hS.zin _ _ (hp13 0 _ (by decide) (vs_at vs i (by omega) hv5))))) hS9 <| Dq 8 rfl (fun _ hS => (rd_cap (by kernel_rfl) (e := 5) rfl)) hS9 <| Dq 9 rfl (fun _ hS => (rd_cut (e := 5) (m := 1) (by kernel_rfl) (by kernel_rfl) rfl (.inl ⟨rfl, rfl⟩) (.inr ⟨_, _, rfl, rfl⟩) (cut_all hlc6))) hS9 <| gdk [(0, .slice Ar vs.length cr), (3, Ni i), (24, .slice A2 c4 c4)] <| Gp1 1 [10] 4 (.slice A2 c4 c4) hS9 <| gdn [(0, .slice Ar vs.length cr), (3, Ni i), (4, .slice A2 c4 c4)] <| sw_next <| sw_sr <| Go1 1 5 (.int .i64 0) <| Dn <| sw_block <| Lp (γ := Nat × List Value) hH (fun (k, xs2) => [(0, .slice Ar vs.length cr), (3, Ni i), (4, .slice A2 c4 c4), (5, Ni k)]) (fun (k, xs2) w_ H_ => (k ≤ c4) ∧ (xs2.length = c4 * 1) ∧ (xs2.take k = List.replicate k (obv i)) ∧ H_ [.row (.slice A2 c4 c4) 5 1 c4 xs2, .grp ((mixO 5 obv vs i).eraseIdx i)]) (fun (k, xs2) => c4 - k) (0, xs7) ?_ ?_
 · exact ⟨by omega, hlen, by simp, hH⟩
 clear hH
 rintro ⟨k, xs2⟩ w15 ⟨hk, hlen2, htk, hH⟩
 refine swk [(0, .slice Ar vs.length cr), (3, Ni i), (4, .slice A2 c4 c4), (5, Ni k)] <| sw_seq <| sw_sr <| Go2 2 25 (Ni k) 26 (.slice A2 c4 c4) <| Gq rfl (Ln (e := 5) rfl) <| Go1 1 28 (.bool (decide ((k : Int) < (c4 : Int)))) <| Dn <| If rfl (fun hc2 => ?_) (fun hc2 => ?_)
 refine Sk <| sw_seq <| sw_block <| sw_region <| Gw2 4 34 ((i : Int) + 1) ((i + 1 : Nat) : Int) 31 (.slice A2 c4 c4) 32 (Ni k) <| Gc0 1 35 (.int .u8 (IntKind.u8.wrap ((i + 1 : Nat) : Int))) (.int .u8 (((UInt8.ofNat (i + 1)).toNat : Nat) : Int)) (cv_byte _) ?_
 obtain ⟨b17, hb16, hi18⟩ := hH.row_idx 0 rfl k (by omega)
 refine Gq rfl (Ix (e := 5) 1 rfl rfl hi18) <| gl_st (So 0 (.int .u8 (((UInt8.ofNat (i + 1)).toNat : Nat) : Int)) rfl hH rfl rfl hb16 (by omega) ?_)
 clear hH; intro w19 hH
 refine Dd <| bkN <| sw_next <| sw_region <| Gw0 2 30 ((k : Int) + 1) ((k + 1 : Nat) : Int) <| Go1 1 5 (Ni (k + 1)) <| Dd <| rnd_end (g := (k, xs2)) (k + 1, (xs2).set (k * 1) (.int .u8 (((UInt8.ofNat (i + 1)).toNat : Nat) : Int))) (by kernel_rfl) ?_ ?_
 · exact ⟨by omega, by rw [List.length_set]; exact hlen2, paint_step htk (by omega), hH⟩
 · show c4 - (k + 1) < c4 - k; omega
 refine sw_exit <| thX <| thX <| bkH <| bkN <| sw_next <| sw_region <| Gw0 2 14 ((i : Int) + 1) ((i + 1 : Nat) : Int) <| Go1 1 3 (Ni (i + 1)) <| Dd <| rnd_end (g := (i)) (i + 1) (by kernel_rfl) ?_ ?_
 have hx : xs2 = List.replicate c4 (obv i) := by rw [← show xs2.take c4 = xs2 from List.take_of_length_le (by omega), ← show k = c4 from by omega]; exact htk
 replace hH := hH.row_eq 0 (l' := c4) (xs' := List.replicate c4 (obv i)) rfl rfl hx
 replace hH : Hp w w15 _ _ [.row (.slice A2 c4 c4) 5 1 c4 (List.replicate c4 (obv i)), .grp ((mixO 5 obv vs i).eraseIdx i)] := hH
 rw [show Own.row (.slice A2 c4 c4) 5 1 c4 (List.replicate c4 (obv i)) = repO 5 (obv i) (vs.getD i undef) from by rw [hv5]; rfl] at hH
 · exact ⟨by omega, (Hp.into (by simp [mixO]; omega) hH).cast (by rw [mixO_step (by omega)])⟩
 · show vs.length - (i + 1) < vs.length - i; omega
 refine sw_exit <| thX <| thX <| bkH <| sw_next <| sw_seq <| sw_sr <| Go1 1 6 (.int .i64 0) <| Dn <| sw_block <| Lp (γ := Nat) hH (fun i => [(0, .slice Ar vs.length cr), (6, Ni i)]) (fun i w_ H_ => (i ≤ vs.length) ∧ H_ [.grp (mixO 5 obv vs vs.length)]) (fun i => vs.length - i) (0) ?_ ?_
 · exact ⟨by omega, hH.cast (by rw [show i = vs.length by omega])⟩
 clear hH
 rintro i w20 ⟨hi, hH⟩
 refine swk [(0, .slice Ar vs.length cr), (6, Ni i)] <| sw_seq <| sw_sr <| Go2 2 37 (Ni i) 38 (.slice Ar vs.length cr) <| Gq rfl (Ln (e := 37) rfl) <| Go1 1 40 (.bool (decide ((i : Int) < ((vs.length : Nat) : Int)))) <| Dn <| If rfl (fun hc3 => ?_) (fun hc3 => ?_)
 refine Sk <| sw_seq <| sw_block <| sw_seq ?_
 obtain ⟨A21, l22, c23, hv24, hlc25⟩ := hsl i (by omega)
 replace hH := hH.out i ((mixO_get (by omega)).trans (by rw [if_pos (by omega)]))
 rw [show repO 5 (obv i) (vs.getD i undef) = .row (.slice A21 c23 c23) 5 1 c23 (List.replicate c23 (obv i)) from by rw [hv24]; rfl] at hH
 replace hH : Hp w w20 _ _ [.row (.slice A21 c23 c23) 5 1 c23 (List.replicate c23 (obv i)), .grp ((mixO 5 obv vs vs.length).eraseIdx i)] := hH
 have hcm : c23 ≤ 9223372036854775807 := by obtain ⟨_, _, e9, -, h9⟩ := hH.row_form 0 rfl; cases e9; simpa [maxLen] using h9
 refine Dr hH (slk (slk sln)) ?_
 clear hH; intro w27 hH hS9
 obtain ⟨p28, hi30, hp29⟩ := hR.idx i (by omega) (by decide)
 refine Gp2 2 [0,1] 43 (.slice Ar vs.length cr) 44 (Ni i) hS9 <| Dq 2 rfl (fun _ hS => (Ix (e := 37) 1 rfl rfl hi30)) hS9 <| Dq 3 rfl (fun _ hS => (rd_load (by kernel_rfl) rfl (hS.zin _ _ (hp29 0 _ (by decide) (vs_at vs i (by omega) hv24))))) hS9 ?_
 obtain ⟨p31, hi33, hp32⟩ := hR.idx i (by omega) (by decide)
 refine Gp2 2 [4,5] 47 (.slice Ar vs.length cr) 48 (Ni i) hS9 <| Dq 6 rfl (fun _ hS => (Ix (e := 37) 1 rfl rfl hi33)) hS9 <| Dq 7 rfl (fun _ hS => (rd_load (by kernel_rfl) rfl (hS.zin _ _ (hp32 0 _ (by decide) (vs_at vs i (by omega) hv24))))) hS9 <| Dq 8 rfl (fun _ hS => (rd_cap (by kernel_rfl) (e := 5) rfl)) hS9 <| Dq 9 rfl (fun _ hS => (rd_cut (e := 5) (m := 1) (by kernel_rfl) (by kernel_rfl) rfl (.inl ⟨rfl, rfl⟩) (.inr ⟨_, _, rfl, rfl⟩) (cut_all hlc25))) hS9 <| gdk [(0, .slice Ar vs.length cr), (6, Ni i), (52, .slice A21 c23 c23)] <| Gp1 1 [10] 7 (.slice A21 c23 c23) hS9 <| gdn [(0, .slice Ar vs.length cr), (6, Ni i), (7, .slice A21 c23 c23)] <| sw_next <| sw_sr <| Go1 1 8 (.int .i64 0) <| Dn <| sw_block <| Lp (γ := Nat) hH (fun k => [(0, .slice Ar vs.length cr), (6, Ni i), (7, .slice A21 c23 c23), (8, Ni k)]) (fun k w_ H_ => (k ≤ c23) ∧ H_ [.row (.slice A21 c23 c23) 5 1 c23 (List.replicate c23 (obv i)), .grp ((mixO 5 obv vs vs.length).eraseIdx i)]) (fun k => c23 - k) (0) ?_ ?_
 · exact ⟨by omega, hH⟩
 clear hH
 rintro k w34 ⟨hk, hH⟩
 refine swk [(0, .slice Ar vs.length cr), (6, Ni i), (7, .slice A21 c23 c23), (8, Ni k)] <| sw_seq <| sw_sr <| Go2 2 53 (Ni k) 54 (.slice A21 c23 c23) <| Gq rfl (Ln (e := 5) rfl) <| Go1 1 56 (.bool (decide ((k : Int) < (c23 : Int)))) <| Dn <| If rfl (fun hc4 => ?_) (fun hc4 => ?_)
 refine Sk <| sw_seq <| sw_block <| sw_sr ?_
 obtain ⟨b36, hb35, hi37⟩ := hH.row_idx 0 rfl k (by omega)
 refine Go2 2 59 (.slice A21 c23 c23) 60 (Ni k) <| Gq rfl (Ix (e := 5) 1 rfl rfl hi37) <| Gq rfl (Lo 0 hH rfl rfl hb35 (rep_at c23 k (obv i) (by omega))) <| Gw0 2 64 ((i : Int) + 1) ((i + 1 : Nat) : Int) <| Gc0 1 65 (.int .u8 (IntKind.u8.wrap ((i + 1 : Nat) : Int))) (.int .u8 (((UInt8.ofNat (i + 1)).toNat : Nat) : Int)) (cv_byte _) <| Go1 1 66 (.bool ((((UInt8.ofNat (i + 1)).toNat : Nat) : Int) != (((UInt8.ofNat (i + 1)).toNat : Nat) : Int))) <| gl_cv 66 (.bool false) (by simp) rfl <| Dn <| Iz <| sw_skip <| bkN <| sw_next <| sw_region <| Gw0 2 58 ((k : Int) + 1) ((k + 1 : Nat) : Int) <| Go1 1 8 (Ni (k + 1)) <| Dd <| rnd_end (g := (k)) (k + 1) (by kernel_rfl) ?_ ?_
 · exact ⟨by omega, hH⟩
 · show c23 - (k + 1) < c23 - k; omega
 refine sw_exit <| thX <| thX <| bkH <| bkN <| sw_next <| sw_region <| Gw0 2 42 ((i : Int) + 1) ((i + 1 : Nat) : Int) <| Go1 1 6 (Ni (i + 1)) <| Dd <| rnd_end (g := (i)) (i + 1) (by kernel_rfl) ?_ ?_
 replace hH : Hp w w34 _ _ [.row (.slice A21 c23 c23) 5 1 c23 (List.replicate c23 (obv i)), .grp ((mixO 5 obv vs vs.length).eraseIdx i)] := hH
 rw [show Own.row (.slice A21 c23 c23) 5 1 c23 (List.replicate c23 (obv i)) = repO 5 (obv i) (vs.getD i undef) from by rw [hv24]; rfl] at hH
 · exact ⟨by omega, (Hp.into (by simp [mixO]; omega) hH).cast (by rw [mixO_same (by omega)])⟩
 · show vs.length - (i + 1) < vs.length - i; omega
 refine sw_exit <| thX <| thX <| bkH <| sw_next <| sw_sr <| Go1 1 2 (.bool true) <| Dn <| Rt1 rfl rfl ?_
 exact ⟨rfl, (hH.sb (List.nil_sublist _)).turned⟩
end Go.Proofs.YtajapgjemefoiaaGreatDoor
/- Layer 1, the document's own answer: digits, numbers, the check sum bit by bit: as the program's. Plain mathematics. -/
set_option linter.unusedVariables false
namespace Go.Proofs.YtajapgjemefoiaaGreatDoor
open Go.SW
def digB (n : Nat) : List UInt8 := dig n (numLen n)
theorem digB_length (n : Nat) : (digB n).length = numLen n := dig_length _ _
theorem digB_le (n : Nat) (h : n < 9223372036854775808) : (digB n).length ≤ 8 := by rw [digB_length]; exact (numLen_bd n h).2.1
theorem numLen_step (n : Nat) (h0 : n ≠ 0) (h : n < 9223372036854775808) : numLen n = numLen (n / 256) + 1 := by
  by_cases h1 : n < 256
  · have e : n / 256 = 0 := by omega
    rw [e]
    have hb := (numLen_bd n h).2.2 h0
    have e0 : numLen 0 = 0 := by decide
    rw [e0]
    refine Classical.byContradiction fun hc => ?_
    have h2 : 256 ^ 1 ≤ 256 ^ (numLen n - 1) := Nat.pow_le_pow_right (by omega) (by omega)
    omega
  · unfold numLen
    rw [Lib.bitLen_shift8 n (by omega) (by omega)]
    omega
theorem digB_step (n : Nat) (h0 : n ≠ 0) (h : n < 9223372036854775808) : digB n = digB (n / 256) ++ [UInt8.ofNat (n % 256)] := by
  unfold digB
  rw [numLen_step n h0 h]
  show dig (n / 256) (numLen (n / 256)) ++ [UInt8.ofNat n] = _
  congr 2
  apply UInt8.toNat_inj.1
  simp
theorem numB_dig (n : Nat) : numB n = [UInt8.ofNat (digB n).length] ++ digB n := by rw [digB_length]; rfl
theorem msk_xor (a b : Nat) : msk (a ^^^ b) = msk a ^^^ msk b := by
  have h : (a ^^^ b) % 2 = (a % 2 + b % 2) % 2 := by
    have h1 : (a ^^^ b) % 2 ^ 1 = a % 2 ^ 1 ^^^ b % 2 ^ 1 := Nat.xor_mod_two_pow
    rw [Nat.pow_one] at h1
    rw [h1]
    rcases Nat.mod_two_eq_zero_or_one a with ha | ha <;> rcases Nat.mod_two_eq_zero_or_one b with hb | hb <;> rw [ha, hb] <;> rfl
  unfold msk
  rw [h]
  rcases Nat.mod_two_eq_zero_or_one a with ha | ha <;> rcases Nat.mod_two_eq_zero_or_one b with hb | hb <;> simp [ha, hb]
theorem step1_xor (a b : Nat) : step1 (a ^^^ b) = step1 a ^^^ step1 b := by
  unfold step1
  rw [msk_xor]
  have h : (a ^^^ b) / 2 = a / 2 ^^^ b / 2 := by
    have e : ∀ x : Nat, x / 2 = x >>> 1 := fun x => by rw [Nat.shiftRight_eq_div_pow]
    rw [e, e, e, Nat.shiftRight_xor_distrib]
  rw [h]
  ac_rfl
theorem stepN_xor (k a b : Nat) : stepN k (a ^^^ b) = stepN k a ^^^ stepN k b := by
  induction k with
  | zero => rfl
  | succ k ih => show step1 (stepN k (a ^^^ b)) = _; rw [ih, step1_xor]; rfl
theorem step1_even (h : Nat) : step1 (2 * h) = h := by
  unfold step1 msk
  rw [if_neg (by omega)]
  simp
theorem stepN_add (j k v : Nat) : stepN (j + k) v = stepN j (stepN k v) := by
  induction j with
  | zero => rw [Nat.zero_add]; rfl
  | succ j ih => rw [Nat.succ_add]; show step1 (stepN (j + k) v) = _; rw [ih]; rfl
theorem stepN4_16 (h : Nat) : stepN 4 (16 * h) = h := by
  show step1 (step1 (step1 (step1 (16 * h)))) = h
  rw [show 16 * h = 2 * (8 * h) by omega, step1_even, show 8 * h = 2 * (4 * h) by omega, step1_even, show 4 * h = 2 * (2 * h) by omega, step1_even, step1_even]
theorem nib_stepN (s : Nat) : nib s = stepN 4 s := by
  have e : s = 16 * (s / 16) ^^^ s % 16 := by
    apply Nat.eq_of_testBit_eq
    intro j
    rw [Nat.testBit_xor]
    have hm : s % 16 = s % 2 ^ 4 := rfl
    have hs : 16 * (s / 16) = (s >>> 4) <<< 4 := by rw [Nat.shiftLeft_eq, Nat.shiftRight_eq_div_pow, Nat.mul_comm]
    rw [hm, Nat.testBit_mod_two_pow, hs, Nat.testBit_shiftLeft, Nat.testBit_shiftRight]
    by_cases h : j < 4
    · simp [h, show ¬ 4 ≤ j by omega]
    · have e4 : 4 + (j - 4) = j := by omega
      simp [h, e4]
      omega
  conv => rhs; rw [e, stepN_xor, stepN4_16]
  rfl
theorem crc_bits (s : Nat) : stepN 8 s = nib (nib s) := by
  rw [nib_stepN, nib_stepN, ← stepN_add]
theorem step_odd {v : Nat} (h : v % 2 = 1) : v / 2 ^^^ 2197175160 = step1 v := by unfold step1 msk; rw [if_pos h]
theorem step_even {v : Nat} (h : ¬ v % 2 = 1) : v / 2 = step1 v := by unfold step1 msk; rw [if_neg h]; simp
theorem be_le (l : List UInt8) (j k : Nat) (hk : j ≤ k) : beVal (l.take j) < 256 ^ k := by
  refine Nat.lt_of_lt_of_le (beVal_lt _) (Nat.pow_le_pow_right (by omega) ?_)
  rw [List.length_take]; omega
theorem be_7 (b : List UInt8) (j : Nat) (hj : j ≤ 7) : beVal ((b.drop 1).take j) < 72057594037927936 := be_le _ j 7 hj
theorem foldl_ge (l : List UInt8) : ∀ n : Nat, n * 256 ^ l.length ≤ l.foldl (fun n c => n * 256 + c.toNat) n := by
  induction l with
  | nil => intro n; simp
  | cons c l ih =>
    intro n
    have h1 := ih (n * 256 + c.toNat)
    simp only [List.foldl_cons, List.length_cons]
    refine Nat.le_trans ?_ h1
    rw [Nat.pow_succ', ← Nat.mul_assoc]
    exact Nat.mul_le_mul_right _ (by omega)
theorem tn_big {b : List UInt8} {k : Nat} (hk : k ≤ 8) (hb : k < b.length) : 9223372036854775807 < beVal ((b.drop 1).take k) ↔ (k = 8 ∧ 127 < gb b 1) := by
  by_cases h8 : k = 8
  · subst h8
    have e : (b.drop 1).take 8 = b.getD 1 0 :: (b.drop 2).take 7 := by
      rw [List.drop_eq_getElem_cons (show 1 < b.length by omega), List.take_succ_cons, List.getD_eq_getElem?_getD, List.getElem?_eq_getElem (show 1 < b.length by omega)]
      rfl
    have hl : ((b.drop 2).take 7).length = 7 := by simp; omega
    have h1 := beVal_cons_lt (b.getD 1 0) ((b.drop 2).take 7)
    have h2 := foldl_ge ((b.drop 2).take 7) (b.getD 1 0).toNat
    have h3 : beVal (b.getD 1 0 :: (b.drop 2).take 7) = ((b.drop 2).take 7).foldl (fun n c => n * 256 + c.toNat) (b.getD 1 0).toNat := by simp [beVal]
    rw [e]
    rw [h3] at h1 ⊢
    rw [hl] at h1 h2
    have e7 : (256 : Nat) ^ 7 = 72057594037927936 := by decide
    rw [e7] at h1 h2
    have hg : gb b 1 = (b.getD 1 0).toNat := rfl
    rw [hg]
    constructor
    · intro h; exact ⟨rfl, by omega⟩
    · rintro ⟨_, h⟩; omega
  · have := be_7 b k (by omega)
    constructor
    · intro h; omega
    · rintro ⟨h, _⟩; omega
end Go.Proofs.YtajapgjemefoiaaGreatDoor
/- Layer 1, the document's own answer (muntinref01): what its functions answer: the same as the program's. -/
set_option maxRecDepth 100000
set_option maxHeartbeats 2000000
set_option linter.unusedVariables false
set_option linter.unusedSimpArgs false
namespace Go.Proofs.YtajapgjemefoiaaGreatDoor
open Go.RowKit Go.SW
theorem cv_xor_c {a : Nat} (h : a < 4294967296) : Value.int .u32 (IntKind.u32.wrap (((BitVec.ofInt 32 ((a : Nat) : Int) ^^^ BitVec.ofInt 32 2197175160).toNat : Nat) : Int)) = .int .u32 ((a ^^^ 2197175160 : Nat) : Int) := by
  have := cv_xor_u32 (a := a) (b := 2197175160) h (by omega)
  exact this

theorem RDigits_ct (n : Nat) : ∀ (w : World), n < 9223372036854775808 →
    Fun Tryz.prog 153 [.int .i64 n] w fun v w' => ∃ v1, v = v1 ∧ Fresh w w' [.row v1 5 1 (digB n).length (bv (digB n))] := by
 refine Nat.strongRecOn n (fun n ih w hn => ?_)
 have hd8 := digB_le (n / 256) (by omega)
 refine fun_of_sw Tryz.func153 rfl 13 rfl rfl ?_
 have hH := Hp.start w
 refine sw_sr <| Go0 1 <| Dn <| sw_seq <| sw_sr <| Go1 2 4 (.bool ((n : Int) == (0 : Int))) <| Dn <| If rfl (fun hc1 => ?_) (fun hc1 => ?_)
 have h0 : n = 0 := by omega
 subst h0
 refine sw_sr <| Go1 1 2 (.slice none 0 0) <| Dn <| Rt1 rfl rfl ?_
 exact ⟨_, rfl, (((hH.sb sln).nilRow 5 1).cast (by rfl)).fresh⟩
 have h0 : n ≠ 0 := by omega
 refine Sk <| sw_sr <| Gc0 2 6 (.int .i64 (IntKind.i64.wrap (Int.tdiv (n : Int) 256))) (Ni (n / 256)) (cvq_i64 (by omega)) <| gl_st (Sc rfl rfl (ih (n / 256) (by omega) _ (by omega)) ?_)
 rintro _ w3 ⟨v1, rfl, hF4⟩
 replace hH := hH.call hF4
 obtain ⟨A5, c6, rfl, hl7, hm8⟩ := hH.row_form 0 rfl
 refine Gc0 2 9 (.int .i64 (Int.tmod (n : Int) 256)) (Ni (n % 256)) (cvr (by omega)) <| Gc0 1 10 (.int .u8 (IntKind.u8.wrap ((n % 256 : Nat) : Int))) (.int .u8 (((UInt8.ofNat (n % 256)).toNat : Nat) : Int)) (cv_byte _) <| gl_st (st_buildS (e := 5) (zv := .int .u8 0) (m := 1) (bytes := 1) rfl rfl rfl (by kernel_rfl) (by kernel_rfl) rfl (cs := [.int .u8 (((UInt8.ofNat (n % 256)).toNat : Nat) : Int)]) (by kernel_rfl) rfl hH ?_)
 clear hH; intro b9 w10 hH
 replace hH := hH.row_eq 1 (l' := 1) (xs' := bv [UInt8.ofNat (n % 256)]) rfl (rfl) (rfl)
 refine gl_st (Apd (e := 5) (.int .u8 0) 1 1 0 rfl hH rfl rfl rfl (hH.row_reads 1 rfl) (bv_one _) (by unfold maxLen; omega) (by omega) ?_)
 clear hH; intro v11 w12 hH
 replace hH := hH.row_eq 0 (l' := ((digB (n / 256)) ++ [UInt8.ofNat (n % 256)]).length) (xs' := bv ((digB (n / 256)) ++ [UInt8.ofNat (n % 256)])) rfl (by simp only [List.length_append, List.length_cons, List.length_nil] <;> omega) ((bv_append _ _).symm)
 obtain ⟨A13, c14, rfl, hl15, hm16⟩ := hH.row_form 0 rfl
 refine Go1 1 2 (.slice A13 (((digB (n / 256)) ++ [UInt8.ofNat (n % 256)]).length) c14) <| Dn <| Rt1 rfl rfl ?_
 exact ⟨_, rfl, ((hH.sb (slk sln)).cast (by rw [digB_step n h0 hn])).fresh⟩
theorem RNum_ct (i : Int) (h0 : 0 ≤ i) (w : World) (h1 : i ≤ 9223372036854775807) :
    Fun Tryz.prog 124 [.int .i64 i] w fun v w' => ∃ v1, v = .tuple #[v1, .int .i64 0] ∧ Fresh w w' [.row v1 5 1 (numB i.toNat).length (bv (numB i.toNat))] := by
 obtain ⟨N, rfl⟩ := Int.eq_ofNat_of_zero_le h0
 simp only [Int.toNat_natCast]
 have hd8 := digB_le N (by omega)
 refine fun_of_sw Tryz.func124 rfl 15 rfl rfl ?_
 have hH := Hp.start w
 refine sw_sr <| Go0 2 <| Dn <| sw_seq <| sw_sr <| Go1 2 6 (.bool (decide ((N : Int) < (0 : Int)))) <| Dn <| If rfl (fun hc1 => absurd hc1 (by omega)) (fun hc1 => ?_)
 clear hc1
 refine Sk <| sw_sr <| Go1 1 7 (Ni N) <| gl_st (Sc rfl rfl (RDigits_ct N _ (by first | omega | (simp <;> omega))) ?_)
 rintro _ w3 ⟨v1, rfl, hF4⟩
 replace hH := hH.call hF4
 obtain ⟨A5, c6, rfl, hl7, hm8⟩ := hH.row_form 0 rfl
 refine Go1 1 4 (.slice A5 ((digB N).length) c6) <| Dn <| sw_sr <| Go1 1 9 (.slice A5 ((digB N).length) c6) <| Gq rfl (Ln (e := 5) rfl) <| Gc0 1 11 (.int .u8 (IntKind.u8.wrap (((digB N).length : Nat) : Int))) (.int .u8 (((UInt8.ofNat (digB N).length).toNat : Nat) : Int)) (cv_byte _) <| gl_st (st_buildS (e := 5) (zv := .int .u8 0) (m := 1) (bytes := 1) rfl rfl rfl (by kernel_rfl) (by kernel_rfl) rfl (cs := [.int .u8 (((UInt8.ofNat (digB N).length).toNat : Nat) : Int)]) (by kernel_rfl) rfl hH ?_)
 clear hH; intro b9 w10 hH
 replace hH := hH.row_eq 1 (l' := 1) (xs' := bv [UInt8.ofNat (digB N).length]) rfl (rfl) (rfl)
 refine Go1 1 13 (.slice A5 ((digB N).length) c6) <| gl_st (Apd (e := 5) (.int .u8 0) 1 1 1 rfl hH rfl rfl rfl (hH.row_reads 0 rfl) (bv_one _) (by unfold maxLen; omega) (by omega) ?_)
 clear hH; intro v11 w12 hH
 replace hH := hH.row_eq 1 (l' := ([UInt8.ofNat (digB N).length] ++ (digB N)).length) (xs' := bv ([UInt8.ofNat (digB N).length] ++ (digB N))) rfl (by simp only [List.length_append, List.length_cons, List.length_nil] <;> omega) ((bv_append _ _).symm)
 obtain ⟨A13, c14, rfl, hl15, hm16⟩ := hH.row_form 1 rfl
 refine Go2 2 2 (.slice A13 (([UInt8.ofNat (digB N).length] ++ (digB N)).length) c14) 3 (.int .i64 0) <| Dn <| Rt2 rfl rfl rfl ?_
 exact ⟨_, rfl, ((hH.sb (slc (slk sln))).cast (by rw [← numB_dig])).fresh⟩
theorem RTakeNum_ct (vb : Value) (b : List UInt8) (w : World) (hb : RB w.cell? vb b) :
    Fun Tryz.prog 125 [vb] w fun v w' => v = .tuple #[.int .i64 ((takeNum b).1 : Nat), .int .i64 ((takeNum b).2.1 : Nat), .int .i64 ((takeNum b).2.2 : Nat)] ∧ Fresh w w' [] := by
 have g0 := gb_lt b 0
 have g1 := gb_lt b 1
 have hbl : b.length ≤ 9223372036854775807 := RB.le hb
 obtain ⟨Ab, cb, rfl, hb1, hb2⟩ := hb.row.form
 refine fun_of_sw Tryz.func125 rfl 49 rfl rfl ?_
 have hH := Hp.start w
 refine sw_sr <| Go0 3 <| Dn <| sw_seq <| sw_sr <| Go1 1 8 (.slice Ab b.length cb) <| Gq rfl (Ln (e := 5) rfl) <| Go1 1 10 (.bool (((b.length : Nat) : Int) == (0 : Int))) <| Dn <| If rfl (fun hc1 => ?_) (fun hc1 => ?_)
 refine sw_sr <| Go3 3 2 (.int .i64 0) 3 (.int .i64 0) 4 (.int .i64 3) <| Dn <| Rt3 rfl rfl rfl rfl ?_
 exact ⟨by unfold takeNum; rw [if_pos (by omega)] <;> rfl, (hH.sb sln).fresh⟩
 refine Sk <| sw_sr ?_
 obtain ⟨p1, hi3, hp2⟩ := hb.row.idx 0 (by omega) (by decide)
 refine Go1 1 11 (.slice Ab b.length cb) <| Gq rfl (Ix (e := 5) 1 rfl rfl hi3) <| Gq rfl (rd_load (by kernel_rfl) rfl (hH.zin _ _ (hp2 0 _ (by decide) (bv_at b 0 (by omega))))) <| Gw0 1 14 ((gb b 0 : Nat) : Int) ((gb b 0 : Nat) : Int) <| Go1 1 5 (Ni (gb b 0)) <| Dn <| sw_seq <| sw_sr <| Go1 2 16 (.bool (decide (((gb b 0 : Nat) : Int) > (8 : Int)))) <| Dn <| If rfl (fun hc2 => ?_) (fun hc2 => ?_)
 refine sw_sr <| Go3 3 2 (.int .i64 0) 3 (.int .i64 0) 4 (.int .i64 4) <| Dn <| Rt3 rfl rfl rfl rfl ?_
 exact ⟨by unfold takeNum; rw [if_neg (by omega), if_pos (by omega)] <;> rfl, (hH.sb sln).fresh⟩
 refine Sk <| sw_seq <| sw_sr <| Go1 1 17 (.slice Ab b.length cb) <| Gq rfl (Ln (e := 5) rfl) <| Gw0 2 20 (1 + ((gb b 0 : Nat) : Int)) ((1 + (gb b 0) : Nat) : Int) <| Go1 1 21 (.bool (decide (((b.length : Nat) : Int) < ((1 + (gb b 0) : Nat) : Int)))) <| Dn <| If rfl (fun hc3 => ?_) (fun hc3 => ?_)
 refine sw_sr <| Go3 3 2 (.int .i64 0) 3 (.int .i64 0) 4 (.int .i64 3) <| Dn <| Rt3 rfl rfl rfl rfl ?_
 exact ⟨by unfold takeNum; rw [if_neg (by omega), if_neg (by omega), if_pos (by omega)] <;> rfl, (hH.sb sln).fresh⟩
 refine Sk <| Cu (γ := Unit) hH (fun _ => [(0, .slice Ab b.length cb), (5, Ni (gb b 0))]) (fun _ w_ H_ => (¬ (0 < gb b 0 ∧ gb b 1 = 0)) ∧ H_ []) ?_ ?_
 ·
  refine sw_sr <| Go1 3 24 (.bool (decide (((gb b 0 : Nat) : Int) > (0 : Int)))) <| Gi 24 rfl (fun hg4 => ?_) (fun hg4 => ?_)
  obtain ⟨p4, hi6, hp5⟩ := hb.row.idx 1 (by omega) (by decide)
  refine Go1 1 25 (.slice Ab b.length cb) <| Gq rfl (Ix (e := 5) 1 rfl rfl hi6) <| Gq rfl (rd_load (by kernel_rfl) rfl (hH.zin _ _ (hp5 0 _ (by decide) (bv_at b 1 (by omega))))) <| Go1 2 29 (.bool (((gb b 1 : Nat) : Int) == (0 : Int))) <| Dn <| If rfl (fun hc5 => ?_) (fun hc5 => ?_)
  refine sw_sr <| Go3 3 2 (.int .i64 0) 3 (.int .i64 0) 4 (.int .i64 4) <| Dn <| Rt3 rfl rfl rfl rfl ?_
  exact ⟨by unfold takeNum; rw [if_neg (by omega), if_neg (by omega), if_neg (by omega), if_neg (by omega), if_pos (by omega)] <;> rfl, (hH.sb sln).fresh⟩
  refine sw_skip <| Ce (()) ?_
  exact ⟨by omega, hH⟩
  refine Go1 5 29 (.bool false) <| Dn <| Iz <| sw_skip <| Ce (()) ?_
  exact ⟨by omega, hH⟩
 clear hH
 rintro _ w7 ⟨hz, hH⟩
 refine swk [(0, .slice Ab b.length cb), (5, Ni (gb b 0))] <| sw_sr <| Go1 1 6 (.int .u64 0) <| Dn <| sw_seq <| sw_sr <| Go1 1 7 (.int .i64 1) <| Dn <| sw_block <| Lp (γ := Nat) hH (fun j => [(0, .slice Ab b.length cb), (5, Ni (gb b 0)), (6, .int .u64 ((beVal ((b.drop 1).take j) : Nat) : Int)), (7, Ni (j + 1))]) (fun j w_ H_ => (j ≤ gb b 0) ∧ H_ []) (fun j => gb b 0 - j) (0) ?_ ?_
 · exact ⟨by omega, hH⟩
 clear hH
 rintro j w8 ⟨hj, hH⟩
 have hbv := be_7 b j
 have gj := gb_lt b (j + 1)
 refine swk [(0, .slice Ab b.length cb), (5, Ni (gb b 0)), (6, .int .u64 ((beVal ((b.drop 1).take j) : Nat) : Int)), (7, Ni (j + 1))] <| sw_seq <| sw_sr <| Go1 3 32 (.bool (decide (((j + 1 : Nat) : Int) ≤ ((gb b 0 : Nat) : Int)))) <| Dn <| If rfl (fun hc7 => ?_) (fun hc7 => ?_)
 have hbv7 := hbv (by omega)
 refine Sk <| sw_seq <| sw_block <| sw_region <| Gc0 2 36 (.int .u64 (IntKind.u64.wrap (((beVal ((b.drop 1).take j) : Nat) : Int) * 256))) (.int .u64 (((beVal ((b.drop 1).take j)) * 256 : Nat) : Int)) (cv_u64 (by omega)) ?_
 obtain ⟨p9, hi11, hp10⟩ := hb.row.idx (j + 1) (by omega) (by decide)
 refine Go2 2 37 (.slice Ab b.length cb) 38 (Ni (j + 1)) <| Gq rfl (Ix (e := 5) 1 rfl rfl hi11) <| Gq rfl (rd_load (by kernel_rfl) rfl (hH.zin _ _ (hp10 0 _ (by decide) (bv_at b (j + 1) (by omega))))) <| Gc0 1 41 (.int .u64 (IntKind.u64.wrap ((gb b (j + 1) : Nat) : Int))) (.int .u64 ((gb b (j + 1) : Nat) : Int)) (cv_u64 (by omega)) <| Gc0 1 42 (.int .u64 (IntKind.u64.wrap ((((beVal ((b.drop 1).take j)) * 256 : Nat) : Int) + ((gb b (j + 1) : Nat) : Int)))) (.int .u64 ((beVal ((b.drop 1).take (j + 1)) : Nat) : Int)) (by rw [take_snoc b j (by omega), beVal_snoc, show (b.getD (j + 1) 0).toNat = gb b (j + 1) from rfl]; exact cv_u64 (by omega)) <| Go1 1 6 (.int .u64 ((beVal ((b.drop 1).take (j + 1)) : Nat) : Int)) <| Dd <| bkN <| sw_next <| sw_region <| Gw0 2 34 (((j + 1 : Nat) : Int) + 1) (((j + 1) + 1 : Nat) : Int) <| Go1 1 7 (Ni ((j + 1) + 1)) <| Dd <| rnd_end (g := (j)) (j + 1) (by kernel_rfl) ?_ ?_
 · exact ⟨by omega, hH⟩
 · show gb b 0 - (j + 1) < gb b 0 - j; omega
 have hjk : j = gb b 0 := by omega
 have hbig := tn_big (b := b) (k := gb b 0) (by omega) (by omega)
 have hb64 : beVal ((b.drop 1).take (gb b 0)) < 18446744073709551616 := be_le _ _ 8 (by omega)
 refine sw_cv 6 (.int .u64 ((beVal ((b.drop 1).take (gb b 0)) : Nat) : Int)) (by rw [hjk]) rfl <| sw_exit <| thX <| thX <| bkH <| sw_next <| sw_seq <| sw_sr <| Go1 2 44 (.bool (decide (((beVal ((b.drop 1).take (gb b 0)) : Nat) : Int) > (9223372036854775807 : Int)))) <| Dn <| If rfl (fun hc8 => ?_) (fun hc8 => ?_)
 refine sw_sr <| Go3 3 2 (.int .i64 0) 3 (.int .i64 0) 4 (.int .i64 4) <| Dn <| Rt3 rfl rfl rfl rfl ?_
 have hq := hbig.1 (by omega)
 exact ⟨by unfold takeNum; rw [if_neg (by omega), if_neg (by omega), if_neg (by omega), if_pos (by omega)] <;> rfl, (hH.sb sln).fresh⟩
 refine Sk <| sw_sr <| Gw0 2 46 ((beVal ((b.drop 1).take (gb b 0)) : Nat) : Int) ((beVal ((b.drop 1).take (gb b 0)) : Nat) : Int) <| Gw0 2 48 (1 + ((gb b 0 : Nat) : Int)) ((1 + (gb b 0) : Nat) : Int) <| Go3 3 2 (Ni (beVal ((b.drop 1).take (gb b 0)))) 3 (Ni (1 + (gb b 0))) 4 (.int .i64 0) <| Dn <| Rt3 rfl rfl rfl rfl ?_
 have hq : ¬ (gb b 0 = 8 ∧ 127 < gb b 1) := fun h => by have := hbig.2 h; omega
 exact ⟨by unfold takeNum; rw [if_neg (by omega), if_neg (by omega), if_neg (by omega), if_neg (by omega), if_neg (by omega)] <;> rfl, (hH.sb sln).fresh⟩
theorem RTakeBlob_ct (vb : Value) (b : List UInt8) (w : World) (hb : RB w.cell? vb b) :
    Fun Tryz.prog 126 [vb] w fun v w' => ∃ v1, v = .tuple #[v1, .int .i64 ((takeBlob b).2.1 : Nat), .int .i64 ((takeBlob b).2.2 : Nat)] ∧ Fresh w w' [.row v1 5 1 (takeBlob b).1.length (bv (takeBlob b).1)] := by
 have hbl : b.length ≤ 9223372036854775807 := RB.le hb
 have hu := takeNum_used b
 obtain ⟨Ab, cb, rfl, hb1, hb2⟩ := hb.row.form
 refine fun_of_sw Tryz.func126 rfl 36 rfl rfl ?_
 have hH := Hp.start w
 refine sw_sr <| Go0 3 <| Dn <| sw_sr <| Go1 1 9 (.slice Ab b.length cb) <| gl_st (Sc rfl rfl (RTakeNum_ct _ _ _ (hb.mono hH.zin)) ?_)
 rintro _ w1 ⟨rfl, hF2⟩
 replace hH := hH.call hF2
 refine Go3 7 5 (Ni ((takeNum b).1)) 6 (Ni ((takeNum b).2.1)) 7 (Ni ((takeNum b).2.2)) <| Dn <| sw_seq <| sw_sr <| Go1 2 15 (.bool ((((takeNum b).2.2 : Nat) : Int) != (0 : Int))) <| Dn <| If rfl (fun hc1 => ?_) (fun hc1 => ?_)
 refine sw_sr <| Go3 4 2 (.slice none 0 0) 3 (.int .i64 0) 4 (Ni ((takeNum b).2.2)) <| Dn <| Rt3 rfl rfl rfl rfl ?_
 exact ⟨_, by unfold takeBlob; rw [if_pos (by omega)] <;> rfl, ((hH.sb sln).nilRow 5 1).cast (by unfold takeBlob; rw [if_pos (by omega)] <;> rfl) |>.fresh⟩
 refine Sk <| sw_seq <| sw_sr <| Go1 2 18 (.bool (decide ((((takeNum b).1 : Nat) : Int) > (65536 : Int)))) <| Dn <| If rfl (fun hc2 => ?_) (fun hc2 => ?_)
 refine sw_sr <| Go3 3 2 (.slice none 0 0) 3 (.int .i64 0) 4 (.int .i64 2) <| Dn <| Rt3 rfl rfl rfl rfl ?_
 exact ⟨_, by unfold takeBlob; rw [if_neg (by omega), if_pos (by omega)] <;> rfl, ((hH.sb sln).nilRow 5 1).cast (by unfold takeBlob; rw [if_neg (by omega), if_pos (by omega)] <;> rfl) |>.fresh⟩
 refine Sk <| sw_seq <| sw_sr <| Go2 2 19 (Ni ((takeNum b).1)) 20 (.slice Ab b.length cb) <| Gq rfl (Ln (e := 5) rfl) <| Gw0 2 23 (((b.length : Nat) : Int) - (((takeNum b).2.1 : Nat) : Int)) ((b.length - (takeNum b).2.1 : Nat) : Int) <| Go1 1 24 (.bool (decide ((((takeNum b).1 : Nat) : Int) > ((b.length - (takeNum b).2.1 : Nat) : Int)))) <| Dn <| If rfl (fun hc3 => ?_) (fun hc3 => ?_)
 refine sw_sr <| Go3 3 2 (.slice none 0 0) 3 (.int .i64 0) 4 (.int .i64 3) <| Dn <| Rt3 rfl rfl rfl rfl ?_
 exact ⟨_, by unfold takeBlob; rw [if_neg (by omega), if_neg (by omega), if_pos (by omega)] <;> rfl, ((hH.sb sln).nilRow 5 1).cast (by unfold takeBlob; rw [if_neg (by omega), if_neg (by omega), if_pos (by omega)] <;> rfl) |>.fresh⟩
 refine Sk <| sw_sr <| gl_st (st_buildS0 (e := 5) (m := 1) rfl rfl rfl (by kernel_rfl) (by kernel_rfl) hH ?_)
 clear hH; intro b3 w4 hH
 refine Gw2 5 30 ((((takeNum b).2.1 : Nat) : Int) + (((takeNum b).1 : Nat) : Int)) (((takeNum b).2.1 + (takeNum b).1 : Nat) : Int) 26 (.slice Ab b.length cb) 27 (Ni ((takeNum b).2.1)) ?_
 obtain ⟨A5, hk6, hv7⟩ := hb.row.cut (by decide) ((takeNum b).2.1) ((takeNum b).2.1 + (takeNum b).1) (by omega) (by omega)
 refine Gq rfl (rd_cut (e := 5) (m := 1) (by kernel_rfl) (by kernel_rfl) rfl (.inr ⟨_, _, rfl, rfl⟩) (.inr ⟨_, _, rfl, rfl⟩) hk6) ?_
 have hr8 := RB.cut hv7 (by omega)
 have hcl : ((b.drop (takeNum b).2.1).take ((takeNum b).2.1 + (takeNum b).1 - (takeNum b).2.1)).length = (takeNum b).1 := by simp; omega
 refine gl_st (Apd (e := 5) (.int .u8 0) 1 1 0 rfl hH rfl rfl rfl (hr8.row.mono hH.zin) (bv_one _) (by unfold maxLen; omega) (by omega) ?_)
 clear hH; intro v9 w10 hH
 replace hH := hH.row_eq 0 (l' := ((b.drop ((takeNum b).2.1)).take (((takeNum b).2.1 + (takeNum b).1) - ((takeNum b).2.1))).length) (xs' := bv ((b.drop ((takeNum b).2.1)).take (((takeNum b).2.1 + (takeNum b).1) - ((takeNum b).2.1)))) rfl (Nat.zero_add _) (List.nil_append _)
 obtain ⟨A11, c12, rfl, hl13, hm14⟩ := hH.row_form 0 rfl
 refine Gw0 3 35 ((((takeNum b).2.1 : Nat) : Int) + (((takeNum b).1 : Nat) : Int)) (((takeNum b).2.1 + (takeNum b).1 : Nat) : Int) <| Go3 3 2 (.slice A11 (((b.drop ((takeNum b).2.1)).take (((takeNum b).2.1 + (takeNum b).1) - ((takeNum b).2.1))).length) c12) 3 (Ni ((takeNum b).2.1 + (takeNum b).1)) 4 (.int .i64 0) <| Dn <| Rt3 rfl rfl rfl rfl ?_
 exact ⟨_, by unfold takeBlob; rw [if_neg (by omega), if_neg (by omega), if_neg (by omega)] <;> rfl, ((hH.sb (slk sln)).cast (by unfold takeBlob; rw [if_neg (by omega), if_neg (by omega), if_neg (by omega)]; simp [Nat.add_sub_cancel_left])).fresh⟩
theorem RSum_ct (vb : Value) (b : List UInt8) (w : World) (hb : RB w.cell? vb b) :
    Fun Tryz.prog 151 [vb] w fun v w' => v = .int .i64 (crc b : Nat) ∧ Fresh w w' [] := by
 have hbl : b.length ≤ 9223372036854775807 := RB.le hb
 have hcrc := crc_lt b
 obtain ⟨Ab, cb, rfl, hb1, hb2⟩ := hb.row.form
 refine fun_of_sw Tryz.func151 rfl 35 rfl rfl ?_
 have hH := Hp.start w
 refine sw_sr <| Go0 1 <| Dn <| sw_sr <| Go1 1 3 (.int .u32 4294967295) <| Dn <| sw_seq <| sw_sr <| Go1 1 4 (.int .i64 0) <| Dn <| sw_block <| Lp (γ := Nat) hH (fun j => [(0, .slice Ab b.length cb), (3, .int .u32 ((crc0 (b.take j) : Nat) : Int)), (4, Ni j)]) (fun j w_ H_ => (j ≤ b.length) ∧ H_ []) (fun j => b.length - j) (0) ?_ ?_
 · exact ⟨by omega, hH⟩
 clear hH
 rintro j w1 ⟨hj, hH⟩
 have hs := crc0_lt (b.take j)
 have hgj := gb_lt b j
 obtain ⟨X, hX⟩ : ∃ X, X = crc0 (b.take j) ^^^ gb b j := ⟨_, rfl⟩
 have hXl : X < 4294967296 := by rw [hX]; exact Nat.xor_lt_two_pow (n := 32) hs (by omega)
 refine swk [(0, .slice Ab b.length cb), (3, .int .u32 ((crc0 (b.take j) : Nat) : Int)), (4, Ni j)] <| sw_seq <| sw_sr <| Go2 2 7 (Ni j) 8 (.slice Ab b.length cb) <| Gq rfl (Ln (e := 5) rfl) <| Go1 1 10 (.bool (decide ((j : Int) < ((b.length : Nat) : Int)))) <| Dn <| If rfl (fun hc1 => ?_) (fun hc1 => ?_)
 refine Sk <| sw_seq <| sw_block <| sw_sr ?_
 obtain ⟨p2, hi4, hp3⟩ := hb.row.idx j (by omega) (by decide)
 refine Go3 3 13 (.int .u32 ((crc0 (b.take j) : Nat) : Int)) 14 (.slice Ab b.length cb) 15 (Ni j) <| Gq rfl (Ix (e := 5) 1 rfl rfl hi4) <| Gq rfl (rd_load (by kernel_rfl) rfl (hH.zin _ _ (hp3 0 _ (by decide) (bv_at b j (by omega))))) <| Gc0 1 18 (.int .u32 (IntKind.u32.wrap ((gb b j : Nat) : Int))) (.int .u32 ((gb b j : Nat) : Int)) (cv_u32 (by omega)) <| Gc0 1 19 (.int .u32 (IntKind.u32.wrap (((BitVec.ofInt 32 ((crc0 (b.take j) : Nat) : Int) ^^^ BitVec.ofInt 32 ((gb b j : Nat) : Int)).toNat : Nat) : Int))) (.int .u32 (X : Int)) (by rw [cv_xor_u32 (by omega) (by omega), ← hX]) <| Go1 1 3 (.int .u32 (X : Int)) <| Dn <| sw_sr <| Go1 1 5 (.int .i64 0) <| Dn <| sw_block <| Lp (γ := Nat) hH (fun k => [(0, .slice Ab b.length cb), (3, .int .u32 ((stepN k X : Nat) : Int)), (4, Ni j), (5, Ni k)]) (fun k w_ H_ => (k ≤ 8) ∧ H_ []) (fun k => 8 - k) (0) ?_ ?_
 · exact ⟨by omega, hH⟩
 clear hH
 rintro k w5 ⟨hk, hH⟩
 have hv := stepN_lt k (v := X) hXl
 refine swk [(0, .slice Ab b.length cb), (3, .int .u32 ((stepN k X : Nat) : Int)), (4, Ni j), (5, Ni k)] <| sw_seq <| sw_sr <| Go1 2 21 (.bool (decide ((k : Int) < (8 : Int)))) <| Dn <| If rfl (fun hc2 => ?_) (fun hc2 => ?_)
 refine Sk <| sw_seq <| sw_block <| sw_sr <| Gc0 2 25 (.int .u32 (IntKind.u32.wrap (((BitVec.ofInt 32 ((stepN k X : Nat) : Int) &&& BitVec.ofInt 32 1).toNat : Nat) : Int))) (.int .u32 ((stepN k X % 2 : Nat) : Int)) (cv_and1 hv) <| Go1 1 6 (.int .u32 ((stepN k X % 2 : Nat) : Int)) <| Dn <| sw_sr <| Gc0 2 27 (.int .u32 (Int.fdiv ((stepN k X : Nat) : Int) (2 ^ 1))) (.int .u32 (((stepN k X) / 2 : Nat) : Int)) (cv_shr) <| Go1 1 3 (.int .u32 (((stepN k X) / 2 : Nat) : Int)) <| Dn <| sw_sr <| Go1 2 29 (.bool (((stepN k X % 2 : Nat) : Int) == (1 : Int))) <| Dn <| If rfl (fun hc3 => ?_) (fun hc3 => ?_)
 refine sw_region <| Gc0 2 31 (.int .u32 (IntKind.u32.wrap (((BitVec.ofInt 32 (((stepN k X) / 2 : Nat) : Int) ^^^ BitVec.ofInt 32 2197175160).toNat : Nat) : Int))) (.int .u32 ((stepN (k + 1) X : Nat) : Int)) (by rw [cv_xor_c (by omega), step_odd (by omega)]; rfl) <| Go1 1 3 (.int .u32 ((stepN (k + 1) X : Nat) : Int)) <| Dd <| bkN <| sw_next <| sw_region <| Gw0 2 23 ((k : Int) + 1) ((k + 1 : Nat) : Int) <| Go1 1 5 (Ni (k + 1)) <| Dd <| rnd_end (g := (k)) (k + 1) (by kernel_rfl) ?_ ?_
 · exact ⟨by omega, hH⟩
 · show 8 - (k + 1) < 8 - k; omega
 refine sw_cv 3 (.int .u32 ((stepN (k + 1) X : Nat) : Int)) (by rw [step_even (by omega)]; rfl) rfl <| sw_skip <| bkN <| sw_next <| sw_region <| Gw0 2 23 ((k : Int) + 1) ((k + 1 : Nat) : Int) <| Go1 1 5 (Ni (k + 1)) <| Dd <| rnd_end (g := (k)) (k + 1) (by kernel_rfl) ?_ ?_
 · exact ⟨by omega, hH⟩
 · show 8 - (k + 1) < 8 - k; omega
 have hk8 : k = 8 := by omega
 refine sw_cv 3 (.int .u32 ((crc0 (b.take (j + 1)) : Nat) : Int)) (by rw [hk8, crc_bits, hX, ← crc0_step b j (by omega)]) rfl <| sw_exit <| thX <| thX <| bkH <| bkN <| sw_next <| sw_region <| Gw0 2 12 ((j : Int) + 1) ((j + 1 : Nat) : Int) <| Go1 1 4 (Ni (j + 1)) <| Dd <| rnd_end (g := (j)) (j + 1) (by kernel_rfl) ?_ ?_
 · exact ⟨by omega, hH⟩
 · show b.length - (j + 1) < b.length - j; omega
 have hjl : j = b.length := by omega
 refine sw_exit <| thX <| thX <| bkH <| sw_next <| sw_sr <| Gc0 2 33 (.int .u32 (IntKind.u32.wrap (((BitVec.ofInt 32 4294967295 ^^^ BitVec.ofInt 32 ((crc0 (b.take j) : Nat) : Int)).toNat : Nat) : Int))) (.int .u32 ((crc b : Nat) : Int)) (cv_crc b j hjl) <| Gw0 1 34 ((crc b : Nat) : Int) ((crc b : Nat) : Int) <| Go1 1 2 (Ni (crc b)) <| Dn <| Rt1 rfl rfl ?_
 exact ⟨rfl, (hH.sb sln).fresh⟩
theorem RFour_ct (n : Nat) (w : World) (hn : n < 9223372036854775808) :
    Fun Tryz.prog 152 [.int .i64 n] w fun v w' => ∃ v1, v = v1 ∧ Fresh w w' [.row v1 5 1 (four n).length (bv (four n))] := by
 refine fun_of_sw Tryz.func152 rfl 15 rfl rfl ?_
 have hH := Hp.start w
 refine sw_sr <| Go0 1 <| Dn <| sw_sr <| Gc0 2 4 (.int .i64 (IntKind.i64.wrap (Int.tdiv (n : Int) 16777216))) (Ni (n / 16777216)) (cvq_i64 (by omega)) <| Gc0 1 5 (.int .u8 (IntKind.u8.wrap ((n / 16777216 : Nat) : Int))) (.int .u8 (((UInt8.ofNat (n / 16777216)).toNat : Nat) : Int)) (cv_byte _) <| Gc0 2 7 (.int .i64 (IntKind.i64.wrap (Int.tdiv (n : Int) 65536))) (Ni (n / 65536)) (cvq_i64 (by omega)) <| Gc0 1 8 (.int .u8 (IntKind.u8.wrap ((n / 65536 : Nat) : Int))) (.int .u8 (((UInt8.ofNat (n / 65536)).toNat : Nat) : Int)) (cv_byte _) <| Gc0 2 10 (.int .i64 (IntKind.i64.wrap (Int.tdiv (n : Int) 256))) (Ni (n / 256)) (cvq_i64 (by omega)) <| Gc0 1 11 (.int .u8 (IntKind.u8.wrap ((n / 256 : Nat) : Int))) (.int .u8 (((UInt8.ofNat (n / 256)).toNat : Nat) : Int)) (cv_byte _) <| Gc0 2 13 (.int .u8 (IntKind.u8.wrap (n : Int))) (.int .u8 (((UInt8.ofNat n).toNat : Nat) : Int)) (cv_byte _) <| gl_st (st_buildS (e := 5) (zv := .int .u8 0) (m := 1) (bytes := 1) rfl rfl rfl (by kernel_rfl) (by kernel_rfl) rfl (cs := [.int .u8 (((UInt8.ofNat (n / 16777216)).toNat : Nat) : Int), .int .u8 (((UInt8.ofNat (n / 65536)).toNat : Nat) : Int), .int .u8 (((UInt8.ofNat (n / 256)).toNat : Nat) : Int), .int .u8 (((UInt8.ofNat n).toNat : Nat) : Int)]) (by kernel_rfl) rfl hH ?_)
 clear hH; intro b1 w2 hH
 refine Go1 1 2 (.slice (some ⟨b1, 0, none⟩) 4 4) <| Dn <| Rt1 rfl rfl ?_
 exact ⟨_, rfl, (hH.row_eq 0 (l' := (four n).length) (xs' := bv (four n)) rfl rfl rfl).fresh⟩
theorem RNumber_ct (vb : Value) (b : List UInt8) (w : World) (hb : RB w.cell? vb b) (h4 : 4 ≤ b.length) :
    Fun Tryz.prog 150 [vb] w fun v w' => v = .int .i64 (get4 b : Nat) ∧ Fresh w w' [] := by
 have g0 := gb_lt b 0
 have g1 := gb_lt b 1
 have g2 := gb_lt b 2
 have g3 := gb_lt b 3
 obtain ⟨Ab, cb, rfl, hb1, hb2⟩ := hb.row.form
 refine fun_of_sw Tryz.func150 rfl 25 rfl rfl ?_
 have hH := Hp.start w
 refine sw_sr <| Go0 1 <| Dn <| sw_seq <| Dr hH sln ?_
 clear hH; intro w1 hH hS9
 obtain ⟨p2, hi4, hp3⟩ := hb.row.idx 0 (by omega) (by decide)
 refine Gp1 1 [0] 3 (.slice Ab b.length cb) hS9 <| Dq 1 rfl (fun _ hS => (Ix (e := 5) 1 rfl rfl hi4)) hS9 <| Dq 2 rfl (fun _ hS => (rd_load (by kernel_rfl) rfl (hS.zin _ _ (hp3 0 _ (by decide) (bv_at b 0 (by omega)))))) hS9 <| Dw0 1 [3] 6 ((gb b 0 : Nat) : Int) ((gb b 0 : Nat) : Int) hS9 <| Dw0 1 [4] 7 (((gb b 0 : Nat) : Int) * 16777216) (((gb b 0) * 16777216 : Nat) : Int) hS9 ?_
 obtain ⟨p5, hi7, hp6⟩ := hb.row.idx 1 (by omega) (by decide)
 refine Gp1 1 [5] 8 (.slice Ab b.length cb) hS9 <| Dq 6 rfl (fun _ hS => (Ix (e := 5) 1 rfl rfl hi7)) hS9 <| Dq 7 rfl (fun _ hS => (rd_load (by kernel_rfl) rfl (hS.zin _ _ (hp6 0 _ (by decide) (bv_at b 1 (by omega)))))) hS9 <| Dw0 1 [8] 11 ((gb b 1 : Nat) : Int) ((gb b 1 : Nat) : Int) hS9 <| Dw0 1 [9] 12 (((gb b 1 : Nat) : Int) * 65536) (((gb b 1) * 65536 : Nat) : Int) hS9 <| Dw0 1 [10] 13 ((((gb b 0) * 16777216 : Nat) : Int) + (((gb b 1) * 65536 : Nat) : Int)) ((((gb b 0) * 16777216) + ((gb b 1) * 65536) : Nat) : Int) hS9 ?_
 obtain ⟨p8, hi10, hp9⟩ := hb.row.idx 2 (by omega) (by decide)
 refine Gp1 1 [11] 14 (.slice Ab b.length cb) hS9 <| Dq 12 rfl (fun _ hS => (Ix (e := 5) 1 rfl rfl hi10)) hS9 <| Dq 13 rfl (fun _ hS => (rd_load (by kernel_rfl) rfl (hS.zin _ _ (hp9 0 _ (by decide) (bv_at b 2 (by omega)))))) hS9 <| Dw0 1 [14] 17 ((gb b 2 : Nat) : Int) ((gb b 2 : Nat) : Int) hS9 <| Dw0 1 [15] 18 (((gb b 2 : Nat) : Int) * 256) (((gb b 2) * 256 : Nat) : Int) hS9 <| Dw0 1 [16] 19 (((((gb b 0) * 16777216) + ((gb b 1) * 65536) : Nat) : Int) + (((gb b 2) * 256 : Nat) : Int)) (((((gb b 0) * 16777216) + ((gb b 1) * 65536)) + ((gb b 2) * 256) : Nat) : Int) hS9 ?_
 obtain ⟨p11, hi13, hp12⟩ := hb.row.idx 3 (by omega) (by decide)
 refine Gp1 1 [17] 20 (.slice Ab b.length cb) hS9 <| Dq 18 rfl (fun _ hS => (Ix (e := 5) 1 rfl rfl hi13)) hS9 <| Dq 19 rfl (fun _ hS => (rd_load (by kernel_rfl) rfl (hS.zin _ _ (hp12 0 _ (by decide) (bv_at b 3 (by omega)))))) hS9 <| Dw0 1 [20] 23 ((gb b 3 : Nat) : Int) ((gb b 3 : Nat) : Int) hS9 <| Dw0 1 [21] 24 ((((((gb b 0) * 16777216) + ((gb b 1) * 65536)) + ((gb b 2) * 256) : Nat) : Int) + ((gb b 3 : Nat) : Int)) ((((((gb b 0) * 16777216) + ((gb b 1) * 65536)) + ((gb b 2) * 256)) + (gb b 3) : Nat) : Int) hS9 <| Gp1 1 [22] 2 (Ni (((((gb b 0) * 16777216) + ((gb b 1) * 65536)) + ((gb b 2) * 256)) + (gb b 3))) hS9 <| gdn [(2, Ni (((((gb b 0) * 16777216) + ((gb b 1) * 65536)) + ((gb b 2) * 256)) + (gb b 3)))] <| sw_next <| Rt1 rfl rfl ?_
 exact ⟨rfl, hH.fresh⟩
theorem RFrame_ct (vp : Value) (p : List UInt8) (w : World) (hp : RB w.cell? vp p) :
    Fun Tryz.prog 123 [vp] w fun v w' => ∃ v1, v = .tuple #[v1, .int .i64 ((if 1048576 < p.length then 2 else 0 : Nat) : Int)] ∧ Fresh w w' [.row v1 5 1 (frameO p).length (bv (frameO p))] := by
 have hpl : p.length ≤ 9223372036854775807 := RB.le hp
 have hcl := crc_lt (four p.length ++ p)
 have h4l := four_length p.length
 have h4c := four_length (crc (four p.length ++ p))
 have hap : (four p.length ++ p).length = 4 + p.length := by rw [List.length_append, four_length]
 obtain ⟨Ap, cp, rfl, hp1, hp2⟩ := hp.row.form
 refine fun_of_sw Tryz.func123 rfl 20 rfl rfl ?_
 have hH := Hp.start w
 refine sw_sr <| Go0 2 <| Dn <| sw_seq <| sw_sr <| Go1 1 6 (.slice Ap p.length cp) <| Gq rfl (Ln (e := 5) rfl) <| Go1 1 8 (.bool (decide (((p.length : Nat) : Int) > (1048576 : Int)))) <| Dn <| If rfl (fun hc1 => ?_) (fun hc1 => ?_)
 refine sw_sr <| Go2 2 2 (.slice none 0 0) 3 (.int .i64 2) <| Dn <| Rt2 rfl rfl rfl ?_
 exact ⟨_, by rw [if_pos (by omega)]; rfl, (hH.nilRow 5 1).cast (by unfold frameO; rw [if_pos (by omega)]; rfl) |>.fresh⟩
 refine Sk <| sw_sr <| Go1 1 9 (.slice Ap p.length cp) <| Gq rfl (Ln (e := 5) rfl) <| gl_st (Sc rfl rfl (RFour_ct p.length _ (by first | omega | (simp <;> omega))) ?_)
 rintro _ w3 ⟨v1, rfl, hF4⟩
 replace hH := hH.call hF4
 obtain ⟨A5, c6, rfl, hl7, hm8⟩ := hH.row_form 0 rfl
 refine Go1 1 12 (.slice Ap p.length cp) <| gl_st (Apd (e := 5) (.int .u8 0) 1 1 0 rfl hH rfl rfl rfl (hp.row.mono hH.zin) (bv_one _) (by unfold maxLen; omega) (by omega) ?_)
 clear hH; intro v9 w10 hH
 replace hH := hH.row_eq 0 (l' := ((four p.length) ++ p).length) (xs' := bv ((four p.length) ++ p)) rfl (by simp only [List.length_append, List.length_cons, List.length_nil] <;> omega) ((bv_append _ _).symm)
 obtain ⟨A11, c12, rfl, hl13, hm14⟩ := hH.row_form 0 rfl
 refine Go1 1 4 (.slice A11 (((four p.length) ++ p).length) c12) <| Dn <| sw_sr <| Go1 1 14 (.slice A11 (((four p.length) ++ p).length) c12) <| gl_st (Sc rfl rfl (RSum_ct _ _ _ (rb_own hH 0 rfl)) ?_)
 rintro _ w15 ⟨rfl, hF16⟩
 replace hH := hH.call hF16
 refine Go1 1 5 (Ni (crc ((four p.length) ++ p))) <| Dn <| sw_sr <| Go2 2 16 (.slice A11 (((four p.length) ++ p).length) c12) 17 (Ni (crc ((four p.length) ++ p))) <| gl_st (Sc rfl rfl (RFour_ct (crc ((four p.length) ++ p)) _ (by first | omega | (simp <;> omega))) ?_)
 rintro _ w19 ⟨v17, rfl, hF20⟩
 replace hH := hH.call hF20
 obtain ⟨A21, c22, rfl, hl23, hm24⟩ := hH.row_form 1 rfl
 refine gl_st (Apd (e := 5) (.int .u8 0) 1 1 0 rfl hH rfl rfl rfl (hH.row_reads 1 rfl) (bv_one _) (by unfold maxLen; omega) (by omega) ?_)
 clear hH; intro v25 w26 hH
 replace hH := hH.row_eq 0 (l' := (((four p.length) ++ p) ++ (four (crc ((four p.length) ++ p)))).length) (xs' := bv (((four p.length) ++ p) ++ (four (crc ((four p.length) ++ p))))) rfl (by simp only [List.length_append, List.length_cons, List.length_nil] <;> omega) ((bv_append _ _).symm)
 obtain ⟨A27, c28, rfl, hl29, hm30⟩ := hH.row_form 0 rfl
 refine Go2 2 2 (.slice A27 ((((four p.length) ++ p) ++ (four (crc ((four p.length) ++ p)))).length) c28) 3 (.int .i64 0) <| Dn <| Rt2 rfl rfl rfl ?_
 exact ⟨_, by rw [if_neg (by omega)]; rfl, ((hH.sb (slk sln)).cast (by unfold frameO frameB; rw [if_neg (by omega)])).fresh⟩
theorem ROpen_ct (vb : Value) (b : List UInt8) (w : World) (hb : RB w.cell? vb b) :
    Fun Tryz.prog 122 [vb] w fun v w' => ∃ v1, v = .tuple #[v1, .int .i64 ((openF b).2.1 : Nat), .int .i64 ((openF b).2.2 : Nat)] ∧ Fresh w w' [.row v1 5 1 (openF b).1.length (bv (openF b).1)] := by
 have hbl : b.length ≤ 9223372036854775807 := RB.le hb
 have hg4 := get4_lt b
 have hcl := crc_lt (b.take (get4 b + 4))
 have hg5 := get4_lt (b.drop (get4 b + 4))
 obtain ⟨Ab, cb, rfl, hb1, hb2⟩ := hb.row.form
 refine fun_of_sw Tryz.func122 rfl 37 rfl rfl ?_
 have hH := Hp.start w
 refine sw_sr <| Go0 3 <| Dn <| sw_seq <| sw_sr <| Go1 1 6 (.slice Ab b.length cb) <| Gq rfl (Ln (e := 5) rfl) <| Go1 1 8 (.bool (decide (((b.length : Nat) : Int) < (4 : Int)))) <| Dn <| If rfl (fun hc1 => ?_) (fun hc1 => ?_)
 refine sw_sr <| Go3 3 2 (.slice none 0 0) 3 (.int .i64 0) 4 (.int .i64 3) <| Dn <| Rt3 rfl rfl rfl rfl ?_
 exact ⟨_, by unfold openF; rw [if_pos (by omega)] <;> rfl, ((hH.sb sln).nilRow 5 1).cast (by unfold openF; rw [if_pos (by omega)] <;> rfl) |>.fresh⟩
 refine Sk <| sw_sr <| Go1 1 9 (.slice Ab b.length cb) <| gl_st (Sc rfl rfl (RNumber_ct _ _ _ (hb.mono hH.zin) (by first | omega | (simp <;> omega))) ?_)
 rintro _ w1 ⟨rfl, hF2⟩
 replace hH := hH.call hF2
 refine Go1 1 5 (Ni (get4 b)) <| Dn <| sw_seq <| sw_sr <| Go1 2 12 (.bool (decide (((get4 b : Nat) : Int) > (1048576 : Int)))) <| Dn <| If rfl (fun hc2 => ?_) (fun hc2 => ?_)
 refine sw_sr <| Go3 3 2 (.slice none 0 0) 3 (.int .i64 0) 4 (.int .i64 2) <| Dn <| Rt3 rfl rfl rfl rfl ?_
 exact ⟨_, by unfold openF; rw [if_neg (by omega), if_pos (by omega)] <;> rfl, ((hH.sb sln).nilRow 5 1).cast (by unfold openF; rw [if_neg (by omega), if_pos (by omega)] <;> rfl) |>.fresh⟩
 refine Sk <| sw_seq <| sw_sr <| Go1 1 13 (.slice Ab b.length cb) <| Gq rfl (Ln (e := 5) rfl) <| Gw0 2 16 (((get4 b : Nat) : Int) + 8) (((get4 b) + 8 : Nat) : Int) <| Go1 1 17 (.bool (decide (((b.length : Nat) : Int) < (((get4 b) + 8 : Nat) : Int)))) <| Dn <| If rfl (fun hc3 => ?_) (fun hc3 => ?_)
 refine sw_sr <| Go3 3 2 (.slice none 0 0) 3 (.int .i64 0) 4 (.int .i64 3) <| Dn <| Rt3 rfl rfl rfl rfl ?_
 exact ⟨_, by unfold openF; rw [if_neg (by omega), if_neg (by omega), if_pos (by omega)] <;> rfl, ((hH.sb sln).nilRow 5 1).cast (by unfold openF; rw [if_neg (by omega), if_neg (by omega), if_pos (by omega)] <;> rfl) |>.fresh⟩
 refine Sk <| sw_seq <| sw_seq <| Dr hH sln ?_
 clear hH; intro w3 hH hS9
 refine Dw2 3 [0,1,2] 20 (((get4 b : Nat) : Int) + 4) (((get4 b) + 4 : Nat) : Int) 18 (.slice Ab b.length cb) 19 (Ni (get4 b)) hS9 ?_
 obtain ⟨A4, hk5, hv6⟩ := hb.row.cut (by decide) 0 ((get4 b) + 4) (by omega) (by omega)
 refine Dq 3 rfl (fun _ hS => (rd_cut (e := 5) (m := 1) (by kernel_rfl) (by kernel_rfl) rfl (.inl ⟨rfl, rfl⟩) (.inr ⟨_, _, rfl, rfl⟩) hk5)) hS9 ?_
 have hr7 := RB.head hv6 (by omega)
 refine Dw2 3 [5,6,7] 25 (((get4 b : Nat) : Int) + 4) (((get4 b) + 4 : Nat) : Int) 23 (.slice Ab b.length cb) 24 (Ni (get4 b)) hS9 ?_
 obtain ⟨A8, hk9, hv10⟩ := hb.row.cut (by decide) ((get4 b) + 4) b.length (by omega) (by omega)
 refine Dq 8 rfl (fun _ hS => (rd_cut (e := 5) (m := 1) (by kernel_rfl) (by kernel_rfl) rfl (.inr ⟨_, _, rfl, rfl⟩) (.inl ⟨rfl, rfl⟩) hk9)) hS9 ?_
 have hr11 := RB.tail hv10
 refine gds 4 (Sc rfl rfl (RSum_ct _ _ _ (hr7.mono hH.zin)) ?_)
 rintro _ w12 ⟨rfl, hF13⟩
 replace hH := hH.call hF13
 refine Nl (hH.sb sln) fun hS9 => gds 9 (Sc rfl rfl (RNumber_ct _ _ _ (hr11.mono hH.zin) (by first | omega | (simp <;> omega))) ?_)
 rintro _ w14 ⟨rfl, hF15⟩
 replace hH := hH.call hF15
 refine Nl (hH.sb sln) fun hS9 => Gp1 1 [10] 28 (.bool (((crc (b.take ((get4 b) + 4)) : Nat) : Int) != ((get4 (b.drop ((get4 b) + 4)) : Nat) : Int))) hS9 <| gdn [(0, .slice Ab b.length cb), (5, Ni (get4 b)), (28, .bool (((crc (b.take ((get4 b) + 4)) : Nat) : Int) != ((get4 (b.drop ((get4 b) + 4)) : Nat) : Int)))] <| sw_next <| If rfl (fun hc4 => ?_) (fun hc4 => ?_)
 refine sw_sr <| Go3 3 2 (.slice none 0 0) 3 (.int .i64 0) 4 (.int .i64 5) <| Dn <| Rt3 rfl rfl rfl rfl ?_
 exact ⟨_, by unfold openF; rw [if_neg (by omega), if_neg (by omega), if_neg (by omega), if_pos (by omega)] <;> rfl, ((hH.sb sln).nilRow 5 1).cast (by unfold openF; rw [if_neg (by omega), if_neg (by omega), if_neg (by omega), if_pos (by omega)] <;> rfl) |>.fresh⟩
 refine Sk <| sw_sr <| gl_st (st_buildS0 (e := 5) (m := 1) rfl rfl rfl (by kernel_rfl) (by kernel_rfl) hH ?_)
 clear hH; intro b16 w17 hH
 refine Gw1 3 32 (((get4 b : Nat) : Int) + 4) (((get4 b) + 4 : Nat) : Int) 30 (.slice Ab b.length cb) ?_
 obtain ⟨A18, hk19, hv20⟩ := hb.row.cut (by decide) 4 ((get4 b) + 4) (by omega) (by omega)
 refine Gq rfl (rd_cut (e := 5) (m := 1) (by kernel_rfl) (by kernel_rfl) rfl (.inr ⟨_, _, rfl, rfl⟩) (.inr ⟨_, _, rfl, rfl⟩) hk19) ?_
 have hr21 := RB.cut hv20 (by omega)
 have hcl4 : ((b.drop 4).take (get4 b + 4 - 4)).length = get4 b := by simp; omega
 refine gl_st (Apd (e := 5) (.int .u8 0) 1 1 0 rfl hH rfl rfl rfl (hr21.row.mono hH.zin) (bv_one _) (by unfold maxLen; omega) (by omega) ?_)
 clear hH; intro v22 w23 hH
 replace hH := hH.row_eq 0 (l' := ((b.drop 4).take (((get4 b) + 4) - 4)).length) (xs' := bv ((b.drop 4).take (((get4 b) + 4) - 4))) rfl (Nat.zero_add _) (List.nil_append _)
 obtain ⟨A24, c25, rfl, hl26, hm27⟩ := hH.row_form 0 rfl
 refine Gw0 2 36 (((get4 b : Nat) : Int) + 8) (((get4 b) + 8 : Nat) : Int) <| Go3 3 2 (.slice A24 (((b.drop 4).take (((get4 b) + 4) - 4)).length) c25) 3 (Ni ((get4 b) + 8)) 4 (.int .i64 0) <| Dn <| Rt3 rfl rfl rfl rfl ?_
 exact ⟨_, by unfold openF; rw [if_neg (by omega), if_neg (by omega), if_neg (by omega), if_neg (by omega)] <;> rfl, ((hH.sb (slk sln)).cast (by unfold openF; rw [if_neg (by omega), if_neg (by omega), if_neg (by omega), if_neg (by omega)]; rw [Nat.add_sub_cancel] <;> rfl)).fresh⟩
end Go.Proofs.YtajapgjemefoiaaGreatDoor
/- Layer 1, the document's own answer (muntinref01): Scan: the same as the program's. -/
set_option maxRecDepth 100000
set_option maxHeartbeats 4000000
set_option linter.unusedVariables false
set_option linter.unusedSimpArgs false
namespace Go.Proofs.YtajapgjemefoiaaGreatDoor
open Go.RowKit Go.SW

theorem RScan_ct (vb : Value) (b : List UInt8) (w : World) (hb : RB w.cell? vb b) (hl : b.length ≤ 4294967296) :
    Fun Tryz.prog 95 [vb] w fun v w' => ∃ v1 qs, v = .tuple #[v1, .int .i64 (((scanA b 0).2.1 : Nat) : Int), .int .i64 (((scanA b 0).2.2 : Nat) : Int)] ∧ (scanA b 0).1 = qs.map (·.1) ∧ Fresh w w' [.row v1 37 1 qs.length (rowC rqC qs), rqG 5 qs] := by
 obtain ⟨Ab, cb, rfl, hb1, hb2⟩ := hb.row.form
 refine fun_of_sw Tryz.func95 rfl 36 rfl rfl ?_
 have hH := Hp.start w
 refine sw_sr <| Go0 3 <| Dn <| sw_sr <| Go1 1 5 (.slice none 0 0) ?_
 replace hH := hH.nilRow 37 1
 replace hH := hH.nogrp
 refine Dn <| sw_sr <| Go1 1 6 (.int .i64 0) <| Dn <| sw_seq <| sw_block ?_
 replace hH := (hH.sb (slk (slk sln))).n2
 refine Lp (γ := Nat × RQ × Option Addr × Nat) hH (fun (k, qs, A, c) => [(0, .slice Ab b.length cb), (5, .slice A qs.length c), (6, Ni k)]) (fun (k, qs, A, c) w_ H_ => (ScanI b k qs) ∧ H_ [.row (.slice A qs.length c) 37 1 qs.length (rowC rqC qs), rqG 5 qs]) (fun (k, qs, A, c) => b.length - k) (0, [], none, 0) ?_ ?_
 · exact ⟨scanI_start b, hH⟩
 clear hH
 rintro ⟨k, qs, A, c⟩ w1 ⟨hI, hH⟩
 have hI1 := hI.1
 have hI2 := hI.2.1
 refine swk [(0, .slice Ab b.length cb), (5, .slice A qs.length c), (6, Ni k)] <| sw_seq <| sw_sr <| Go2 2 10 (Ni k) 11 (.slice Ab b.length cb) <| Gq rfl (Ln (e := 5) rfl) <| Go1 1 13 (.bool (decide ((k : Int) < ((b.length : Nat) : Int)))) <| Dn <| If rfl (fun hc1 => ?_) (fun hc1 => ?_)
 refine Sk <| sw_block <| sw_sr ?_
 obtain ⟨A2, hk3, hv4⟩ := hb.row.cut (by decide) k b.length (by omega) (by omega)
 refine Go2 2 15 (.slice Ab b.length cb) 16 (Ni k) <| Gq rfl (rd_cut (e := 5) (m := 1) (by kernel_rfl) (by kernel_rfl) rfl (.inr ⟨_, _, rfl, rfl⟩) (.inl ⟨rfl, rfl⟩) hk3) ?_
 have hr5 := RB.tail hv4
 refine gl_st (Sc rfl rfl (ROpen_ct _ _ _ (hr5.mono hH.zin)) ?_)
 rintro _ w8 ⟨v6, rfl, hF9⟩
 replace hH := hH.call hF9
 obtain ⟨A10, c11, rfl, hl12, hm13⟩ := hH.row_form 2 rfl
 refine Go3 7 7 (.slice A10 (((openF (b.drop k)).1).length) c11) 8 (Ni ((openF (b.drop k)).2.1)) 9 (Ni ((openF (b.drop k)).2.2)) <| Dn <| sw_seq <| sw_sr <| Go1 2 23 (.bool ((((openF (b.drop k)).2.2 : Nat) : Int) != (0 : Int))) <| Dn <| If rfl (fun hc2 => ?_) (fun hc2 => ?_)
 refine sw_sr <| Go3 6 2 (.slice A qs.length c) 3 (Ni k) 4 (Ni ((openF (b.drop k)).2.2)) <| Dn <| Rt3 rfl rfl rfl rfl ?_
 replace hH := (hH.sb (slk (slk sln))).n2
 have hs := scanI_err hI (by omega) (by omega)
 exact ⟨_, qs, by rw [hs] <;> rfl, by rw [hs], hH.fresh⟩
 refine Sk <| sw_sr <| Go2 2 27 (.slice A qs.length c) 28 (.slice A10 (((openF (b.drop k)).1).length) c11) <| gl_st (st_buildS (e := 37) (zv := .slice none 0 0) (m := 1) (bytes := 24) rfl rfl rfl (by kernel_rfl) (by kernel_rfl) rfl (cs := [.slice A10 (((openF (b.drop k)).1).length) c11]) (by kernel_rfl) rfl hH ?_)
 clear hH; intro b14 w15 hH
 refine gl_st (Apd (e := 37) (.slice none 0 0) 1 24 0 rfl hH rfl rfl rfl (hH.row_reads 3 rfl) (by simp [Value.oneCell']) (by unfold maxLen; omega) (by omega) ?_)
 clear hH; intro v16 w17 hH
 replace hH := hH.row_eq 0 (l' := (qs ++ [((openF (b.drop k)).1, (Value.slice A10 (((openF (b.drop k)).1).length) c11))]).length) (xs' := rowC rqC (qs ++ [((openF (b.drop k)).1, (Value.slice A10 (((openF (b.drop k)).1).length) c11))])) rfl (by rw [List.length_append]; rfl) (by rw [← rowC_app]; rfl)
 obtain ⟨A18, c19, rfl, hl20, hm21⟩ := hH.row_form 0 rfl
 refine Go1 1 5 (.slice A18 ((qs ++ [((openF (b.drop k)).1, (Value.slice A10 (((openF (b.drop k)).1).length) c11))]).length) c19) <| Dn ?_
 have hu9 := openF_used (b := b.drop k) (by omega)
 rw [List.length_drop] at hu9
 replace hH := hH.fr3.fr3
 replace hH : Hp w w17 _ _ (rqG 5 qs :: rqO 5 ((openF (b.drop k)).1, (Value.slice A10 (((openF (b.drop k)).1).length) c11)) :: [.row (.slice A18 ((qs ++ [((openF (b.drop k)).1, (Value.slice A10 (((openF (b.drop k)).1).length) c11))]).length) c19) 37 1 ((qs ++ [((openF (b.drop k)).1, (Value.slice A10 (((openF (b.drop k)).1).length) c11))]).length) (rowC rqC (qs ++ [((openF (b.drop k)).1, (Value.slice A10 (((openF (b.drop k)).1).length) c11))])), .row (.slice (some ⟨b14, 0, none⟩) 1 1) 37 1 1 [.slice A10 (((openF (b.drop k)).1).length) c11]]) := hH
 replace hH := rq_in hH
 replace hH : Hp w w17 _ _ [rqG 5 (qs ++ [((openF (b.drop k)).1, (Value.slice A10 (((openF (b.drop k)).1).length) c11))]), .row (.slice A18 ((qs ++ [((openF (b.drop k)).1, (Value.slice A10 (((openF (b.drop k)).1).length) c11))]).length) c19) 37 1 ((qs ++ [((openF (b.drop k)).1, (Value.slice A10 (((openF (b.drop k)).1).length) c11))]).length) (rowC rqC (qs ++ [((openF (b.drop k)).1, (Value.slice A10 (((openF (b.drop k)).1).length) c11))])), .row (.slice (some ⟨b14, 0, none⟩) 1 1) 37 1 1 [.slice A10 (((openF (b.drop k)).1).length) c11]] := hH
 refine sw_region <| Gw0 3 33 ((k : Int) + (((openF (b.drop k)).2.1 : Nat) : Int)) ((k + ((openF (b.drop k)).2.1) : Nat) : Int) <| Go1 1 6 (Ni (k + ((openF (b.drop k)).2.1))) <| Dd <| bkN <| rnd_end (g := (k, qs, A, c)) (k + (openF (b.drop k)).2.1, qs ++ [((openF (b.drop k)).1, (Value.slice A10 (((openF (b.drop k)).1).length) c11))], A18, c19) (by kernel_rfl) ?_ ?_
 replace hH := hH.fr2
 replace hH := (hH.sb (slk (slk sln))).n2
 · exact ⟨scanI_step hI (by omega) (by omega) _, hH⟩
 · show b.length - (k + (openF (b.drop k)).2.1) < b.length - k; have := openF_used (b := b.drop k) (by omega); omega
 refine sw_exit <| thX <| thX <| bkH <| sw_next <| sw_sr <| Go3 5 2 (.slice A qs.length c) 3 (Ni k) 4 (.int .i64 0) <| Dn <| Rt3 rfl rfl rfl rfl ?_
 replace hH := (hH.sb (slk (slk sln))).n2
 have hs := scanI_end hI (by omega)
 exact ⟨_, qs, by rw [hs] <;> rfl, by rw [hs], hH.fresh⟩
end Go.Proofs.YtajapgjemefoiaaGreatDoor
