/- The calculus of SW: bytes at the front of a block of the call's own, under a slice whose capacity may be less than the block. Plain theorems. -/
import Derived.Test.YtjcchjgkkplamaaGreatDoorSWL
set_option linter.unusedVariables false
set_option linter.unusedSimpArgs false
set_option maxRecDepth 100000
namespace Go.SW
open Go Go.RowKit
def vwAt (w : World) (e : TypeId) (v : Value) (l : List UInt8) : Prop :=
  v = .slice none 0 0 ∧ l = [] ∨ ∃ g cap cur, v = .slice (some ⟨g, 0, none⟩) l.length cap ∧ w.heap[g]? = some (.cells cur e (0, 0)) ∧ l.length ≤ cap ∧ cap ≤ maxLen ∧ cap ≤ cur.size ∧ cur.toList.take l.length = bv l
def Own.vw (v : Value) (e : TypeId) (l : List UInt8) : Own where
  blks := v.ownBlock.toList
  at' w := vwAt w e v l
  lt' w h g hg := by
    rcases h with ⟨rfl, _⟩ | ⟨g', cap, cur, rfl, h1, _⟩
    · simp [Value.ownBlock] at hg
    · have : g = g' := by simpa [Value.ownBlock, eq_comm] using hg
      subst this
      exact (Array.getElem?_eq_some_iff.1 h1).1
  kept' w w' h hk := by
    rcases h with h | ⟨g, cap, cur, rfl, h1, h2⟩
    · exact .inl h
    · exact .inr ⟨g, cap, cur, rfl, by rw [hk g (by simp [Value.ownBlock])]; exact h1, h2⟩
theorem vw_of_own {w : World} {e : TypeId} {v : Value} {l : List UInt8} (h : w.ownsRow 0 e 1 v l.length (bv l)) : vwAt w e v l := by
  rcases h.2 with ⟨h1, h2⟩ | ⟨g, cap, cur, h1, _, h2, h3, h4, h5, h6⟩
  · exact .inl ⟨h1, List.eq_nil_of_length_eq_zero h2⟩
  · exact .inr ⟨g, cap, cur, h1, h2, h3, h4, by omega, by simpa using h6⟩
theorem vw_row {w : World} {e : TypeId} {v : Value} {l : List UInt8} (h : vwAt w e v l) : RB w.cell? v l := by
  rcases h with ⟨rfl, rfl⟩ | ⟨g, cap, cur, rfl, h1, h2, h3, h4, h5⟩
  · exact RB.nil _
  · refine ⟨by simp [bv], some ⟨g, 0, none⟩, cap, rfl, h2, h3, fun j u hu => ⟨_, rfl, ?_⟩⟩
    rw [← h5, List.getElem?_take] at hu
    split at hu
    · have hc : cur[j]? = some u := by simpa using hu
      rw [add_blk, Nat.zero_add]
      simp [World.cell?, h1, hc]
    · cases hu
theorem vw_cut {w : World} {e : TypeId} {A : Option Addr} {n c : Nat} {l : List UInt8} (h : vwAt w e (.slice A n c) l) {k : Nat} (hk : k ≤ l.length) : vwAt w e (.slice A k k) (l.take k) := by
  have hl : (l.take k).length = k := by simp [Nat.min_eq_left hk]
  rcases h with ⟨h0, rfl⟩ | ⟨g, cap, cur, h0, h1, h2, h3, h4, h5⟩
  · cases h0
    simp only [List.length_nil, Nat.le_zero_eq] at hk
    subst hk
    exact .inl ⟨rfl, rfl⟩
  · cases h0
    refine .inr ⟨g, k, cur, by rw [hl], h1, by omega, by omega, by omega, ?_⟩
    rw [hl]
    have := congrArg (List.take k) h5
    rw [List.take_take, Nat.min_eq_left hk] at this
    rw [this]; simp [bv]
section
variable {P : Program} {n : Nat} {ops : Array Oper} {Q : Exit → Act → World → Prop} {i : Nat} {fr : Fr} {w w0 : World} {z : Zone} {F : List Nat} {os : List Own}
variable {K : Fr → World → Prop} {d : Option Tmp} {ty : TypeId} {pos : String} {aft : Array Edge} {g : Option (Nat × Bool)}
theorem Hp.vw_at (hH : Hp w0 w z F os) (k : Nat) {v : Value} {e : TypeId} {l : List UInt8} (hk : os[k]? = some (.vw v e l)) : vwAt w e v l := hH.own _ (List.mem_of_getElem? hk)
theorem Hp.vw_reads (hH : Hp w0 w z F os) (k : Nat) {v : Value} {e : TypeId} {l : List UInt8} (hk : os[k]? = some (.vw v e l)) : RB w.cell? v l := vw_row (hH.vw_at k hk)
theorem Hp.vw_form (hH : Hp w0 w z F os) (k : Nat) {v : Value} {e : TypeId} {l : List UInt8} (hk : os[k]? = some (.vw v e l)) : ∃ A c, v = .slice A l.length c ∧ l.length ≤ c ∧ c ≤ maxLen := by
  obtain ⟨A, c, h1, h2, h3⟩ := (hH.vw_reads k hk).row.form
  exact ⟨A, c, h1, h2, h3⟩
/-- A row of bytes is such a thing. -/
theorem Hp.to_vw {v : Value} {e : TypeId} {l : List UInt8} {r : List Own} (h : Hp w0 w z F (.row v e 1 l.length (bv l) :: r)) : Hp w0 w z F (.vw v e l :: r) := h.weak rfl vw_of_own
/-- The slice is cut at its front. -/
theorem Hp.cut_vw {A : Option Addr} {n c : Nat} {e : TypeId} {l : List UInt8} {r : List Own} (h : Hp w0 w z F (.vw (.slice A n c) e l :: r)) (k : Nat) (hk : k ≤ l.length) : Hp w0 w z F (.vw (.slice A k k) e (l.take k) :: r) :=
  h.weak (by cases A <;> rfl) (fun ha => vw_cut ha hk)
theorem cut3_front (A : Option Addr) (l c k : Nat) (m : Nat) (hk : k ≤ c) : CutOf (.slice A l c) m 0 k k (.slice A k k) := by
  refine ⟨A, l, c, rfl, Nat.zero_le _, Nat.le_refl _, hk, ?_⟩
  split
  · rfl
  · cases A with
    | none => rfl
    | some a => simp [Addr.add]
theorem run_append_vw {t e : TypeId} {tyR : TypeId} (ht : elemT P t = some e) {zv : Value} {bytes : Nat} (he : (P.info? e).map (fun i => (i.zero, i.size, i.bytes)) = some (some zv, 1, bytes)) (hzc : zv.cells.size = 1)
    {v x : Value} {l q : List UInt8} (hown : vwAt w e v l) (hR : RB w.cell? x q) (h63 : l.length + q.length ≤ maxLen) (hb : (l.length + q.length) * bytes ≤ 140737488355328) :
    ∃ v' w', (Builtin.append_ #[t, t] tyR #[v, x]).run P w = .ok v' w' ∧ vwAt w' e v' (l ++ q) ∧ w.grownBy w' v.ownBlock ∧ (v'.ownBlock = v.ownBlock ∨ v'.ownBlock = some w.heap.size) := by
  obtain ⟨inf, k1, k2, k3, k4⟩ := info_parts he
  have hR' := hR
  rcases hown with ⟨rfl, rfl⟩ | ⟨b, cap, cur, rfl, hbg, hn, hmx, hsz, htk⟩
  · have hrow : w.ownsRow 0 e 1 (.slice none 0 0) 0 [] := World.ownsRow_nil _ _ _ _
    obtain ⟨v', w', r1, r2, r3, r4⟩ := run_append_row (P := P) (tyR := tyR) ht he hzc (by decide) hrow hR.row (bv_one _) (by simpa using h63) (by simpa using hb)
    refine ⟨v', w', r1, vw_of_own ?_, r3, r4⟩
    simpa using r2
  obtain ⟨h0, A2, cap2, rfl, _, _, hc⟩ := hR.row
  rw [Nat.mul_one] at h0
  cases A2 with
  | none =>
    have hy : q = [] := hR'.none
    subst hy
    refine ⟨.slice (some ⟨b, 0, none⟩) l.length cap, w, ?_, by rw [List.append_nil]; exact .inr ⟨b, cap, cur, rfl, hbg, hn, hmx, hsz, htk⟩, World.grownBy.refl _ _, .inl rfl⟩
    simp [Builtin.append_, run_underlying (underlying_of_elem ht), sizeOf, typeInfo, k1, Builtin.lenOf, Builtin.firstCells, hn, storeCells]
  | some ad =>
    have hcc : ∀ j u, (bv q)[j]? = some u → w.cell? (ad.add j) = some u := fun j u hu => by obtain ⟨ad', e', hp⟩ := hc j u hu; cases e'; exact hp
    by_cases hroom : l.length + q.length ≤ cap
    · have hrun := run_append_room (P := P) w t tyR e inf (underlying_of_elem ht) k1 b l.length cap cur hbg ad q.length cap2 (bv q) (by rw [h0, k3, Nat.mul_one]) hcc (bv_one _) hroom (by rw [h0, k3, Nat.mul_one]; omega)
      refine ⟨_, _, hrun, .inr ⟨b, cap, _, by rw [List.length_append], setRow_heap w b cur _ e (0, 0) hbg, by rw [List.length_append]; exact hroom, hmx, ?_, ?_⟩, ⟨rfl, rfl, rfl, by simp [World.setRow], fun j hj hne => ?_⟩, .inl rfl⟩
      · have : q.length ≤ cur.size - l.length := by omega
        simp [h0, k3]
        omega
      · simp only [k3, Nat.mul_one] at *
        rw [htk]
        have hb2 : bv (l ++ q) = bv l ++ bv q := by simp [bv]
        have hl2 : (bv l ++ bv q).length = (l ++ q).length := by simp [bv]
        rw [hb2, ← hl2]
        exact List.take_left
      · have : b ≠ j := fun e' => hne (by simp [Value.ownBlock, e'])
        simp [World.setRow, Array.getElem?_modify, this]
    · have hholds : ∀ j u, (bv l)[j]? = some u → w.cell? ((⟨b, 0, none⟩ : Addr).add j) = some u := fun j u hu => by
        obtain ⟨_, A3, c3, e3, _, _, h3⟩ := (vw_row (w := w) (e := e) (.inr ⟨b, cap, cur, rfl, hbg, hn, hmx, hsz, htk⟩)).row
        cases e3
        obtain ⟨ad', e', hp⟩ := h3 j u hu
        cases e'; exact hp
      have hl1 : (bv l).length = l.length * inf.size := by rw [k3, Nat.mul_one]; simp [bv]
      have hl2 : (bv q).length = q.length * inf.size := by rw [k3, Nat.mul_one]; simp [bv]
      have hrun := run_append_grow (P := P) w t tyR e inf zv (underlying_of_elem ht) k1 k2 ⟨b, 0, none⟩ l.length cap (bv l) hl1 hholds ad q.length cap2 (bv q) hl2 hcc (by omega) (by simp only [maxLen] at h63; omega) (growslice_fits (by omega) (by rw [k4]; exact hb))
      have hge := grownCap_ge w (l.length + q.length) cap e
      have hle := grownCap_le_maxLen w (l.length + q.length) cap e h63
      have hlen : (bv l ++ bv q).length = l.length + q.length := by simp [bv]
      refine ⟨_, _, hrun, .inr ⟨w.heap.size, _, _, by rw [List.length_append], heap_alloc_new w.drew _, by rw [List.length_append]; exact hge, hle, ?_, ?_⟩, ⟨rfl, rfl, rfl, by simp, fun k hk _ => Below.heap_alloc w.drew _ k hk⟩, .inr rfl⟩
      · simp only [Array.size_append, List.size_toArray, size_zeroCells, hzc, hl1, hl2, k3]
        omega
      · have hb2 : bv (l ++ q) = bv l ++ bv q := by simp [bv]
        rw [hb2, List.length_append, ← hlen]
        simp only [Array.toList_append, List.append_assoc]
        rw [← List.append_assoc]
        exact List.take_left
theorem st_appV {t e : TypeId} {x y : Operand} (k : Nat) (hi : ops[i]? = some ⟨d, .call ⟨.builtin .append, #[x, y], #[t, t]⟩, ty, pos, aft, g⟩) (hg : guardV ops fr ⟨d, .call ⟨.builtin .append, #[x, y], #[t, t]⟩, ty, pos, aft, g⟩ = some true) (hs : (dok n d && knowns fr (.call ⟨.builtin .append, #[x, y], #[t, t]⟩) && true) = true)
    (ht : elemT P t = some e) {zv : Value} {bytes : Nat} (he : (P.info? e).map (fun i => (i.zero, i.size, i.bytes)) = some (some zv, 1, bytes)) (hzc : zv.cells.size = 1) (hH : Hp w0 w z F os)
    {v u : Value} {l q : List UInt8} (hx : ev fr x = v) (hk : os[k]? = some (.vw v e l)) (hy : ev fr y = u) (hR : RB w.cell? u q) (h63 : l.length + q.length ≤ maxLen) (hb : (l.length + q.length) * bytes ≤ 140737488355328)
    (h : ∀ v' w', Hp w0 w' z F (os.set k (.vw v' e (l ++ q))) → K (pf fr d v') w') : ST P n ops Q i K fr w := by
  have hr := hH.vw_at k hk
  obtain ⟨v', w', r1, r2, r3, r4⟩ := run_append_vw (P := P) (tyR := ty) ht he hzc hr hR h63 hb
  refine st_run hi hg hs v' w' ?_ (h v' w' ?_)
  · simp [execOp, resolve, invoke, builtin, hx, hy, r1, Result.andThen]
  · refine hH.turn k hk v.ownBlock (fun b hb => by simp [Own.vw, hb]) r3 r2 (fun b hb => ?_) (by simp only [Own.vw]; cases v'.ownBlock <;> simp)
    simp only [Own.vw, Option.mem_toList] at hb ⊢
    rcases r4 with r4 | r4
    · exact .inl (r4 ▸ hb)
    · rw [r4] at hb; cases hb; exact .inr (Nat.le_refl _)
end
end Go.SW
