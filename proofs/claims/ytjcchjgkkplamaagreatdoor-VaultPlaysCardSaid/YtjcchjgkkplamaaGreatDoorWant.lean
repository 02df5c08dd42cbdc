/- Layer 20 (vault): what an inbox wants; its contracts for any state; the parts of a snapshot as they are read. -/
import Derived.Test.YtjcchjgkkplamaaGreatDoorInbox
set_option maxRecDepth 100000
set_option maxHeartbeats 2000000
set_option linter.unusedVariables false
set_option linter.unusedSimpArgs false
namespace Go.Proofs.YtjcchjgkkplamaaGreatDoor
open Go.RowKit Go.SW
/-- Which part is wanted. -/
def wantN (rs : List (Int × Value × List UInt8)) (many : Nat) : Option Nat := (List.range many).find? fun (k : Nat) => !has rs (k : Int)
def wantI (S : Ibx) : Int × Int × Int :=
  match S.new, wantN S.rs S.many with
  | some u, some k => (u.2, u.1, (k : Int))
  | _, _ => (0, 0, 0)
theorem wantN_some {rs : List (Int × Value × List UInt8)} {many i : Nat} (hi : i < many) (hb : ∀ j : Nat, j < i → has rs (j : Int) = true) (hn : has rs (i : Int) = false) : wantN rs many = some i := by
  unfold wantN
  rw [List.find?_range_eq_some]
  exact ⟨by simp [hn], List.mem_range.2 hi, fun j hj => by simp [hb j hj]⟩
theorem wantN_none {rs : List (Int × Value × List UInt8)} {many : Nat} (hb : ∀ j : Nat, j < many → has rs (j : Int) = true) : wantN rs many = none := by
  unfold wantN
  rw [List.find?_range_eq_none]
  intro j hj
  simp [hb j hj]

theorem WantS_ct (xb nb mb : Nat) (tn ix : Int) (mn : Nat) (rs : List (Int × Value × List UInt8)) (l : List (Int × Value)) (w : World) (hM : Mine w [.grp (ibxO xb nb mb ⟨some (tn, ix), mn, rs⟩ l)]) (hmn : mn ≤ 1024) (hl : mn ≠ 0 → l = kv rs) :
    Fun Tryz.prog 26 [.pointer (some ⟨xb, 0, none⟩)] w fun v w' => v = .tuple #[.int .i64 (wantI ⟨some (tn, ix), mn, rs⟩).1, .int .i64 (wantI ⟨some (tn, ix), mn, rs⟩).2.1, .int .i64 (wantI ⟨some (tn, ix), mn, rs⟩).2.2] ∧ Turn w w' [.grp (ibxO xb nb mb ⟨some (tn, ix), mn, rs⟩ l)] [.grp (ibxO xb nb mb ⟨some (tn, ix), mn, rs⟩ l)] := by
  refine fun_of_sw Tryz.func26 rfl 42 rfl rfl ?_
  have hH : Hp w w (off w (blksOf [.grp (ibxO xb nb mb ⟨some (tn, ix), mn, rs⟩ l)])) (blksOf [.grp (ibxO xb nb mb ⟨some (tn, ix), mn, rs⟩ l)]) (ibxO xb nb mb ⟨some (tn, ix), mn, rs⟩ l ++ []) := (Hp.start_mine hM).open_
  replace hH : Hp w w _ _ [.kmap mb (intK .i64) l, .blk xb 113 [Pp nb 0, Ni mn, .map (some mb)], .grp (ibxOwn 5 rs), .blk nb 116 [.int .i64 tn, .int .i64 ix]] := hH
  refine sw_sr ?_
  refine gl_ops 3 [(0, Pp xb 0)] (by kernel_rfl) ?_
  refine gl_dn rfl ?_
  refine sw_seq ?_
  refine sw_sr ?_
  refine gl_ops 3 [(0, Pp xb 0), (10, Pp xb 1)] (by kernel_rfl) ?_
  refine gl_q rfl rfl rfl (rd_loadK 1 (by kernel_rfl) hH rfl rfl rfl) ?_
  refine gl_ops 1 [(0, Pp xb 0), (11, Ni mn), (12, .int .i64 0)] (by kernel_rfl) ?_
  refine gl_dn rfl ?_
  refine sw_block ?_
  refine sw_loop (γ := Nat) (fun i => [(0, Pp xb 0), (11, Ni mn), (12, Ni i)]) (fun i w_ => (i ≤ mn) ∧ (∀ j : Nat, j < i → has rs (j : Int) = true) ∧ Hp w w_ (off w (blksOf [.grp (ibxO xb nb mb ⟨some (tn, ix), mn, rs⟩ l)])) (blksOf [.grp (ibxO xb nb mb ⟨some (tn, ix), mn, rs⟩ l)]) [.kmap mb (intK .i64) l, .blk xb 113 [Pp nb 0, Ni mn, .map (some mb)], .grp (ibxOwn 5 rs), .blk nb 116 [.int .i64 tn, .int .i64 ix]]) (fun i => mn - i) (0) (Sub.of_eq (by kernel_rfl)) ?_ ?_
  · exact ⟨by omega, fun j hj => absurd hj (by omega), hH⟩
  clear hH
  rintro i w1 ⟨hi, hall, hH⟩
  refine sw_keep [(0, Pp xb 0), (11, Ni mn), (12, Ni i)] (by kernel_rfl) ?_
  refine sw_sr ?_
  refine gl_ops 1 [(0, Pp xb 0), (11, Ni mn), (12, Ni i), (13, .bool (decide (((i : Nat) : Int) < ((mn : Nat) : Int))))] (by kernel_rfl) ?_
  refine gl_dn rfl ?_
  refine sw_seq ?_
  refine sw_cond rfl rfl (fun hc1 => ?_) (fun hc1 => ?_)
  ·
    try simp only [decide_eq_true_eq] at hc1
    refine sw_skip ?_
    refine sw_next ?_
    refine sw_seq ?_
    refine sw_block ?_
    refine sw_sr ?_
    refine gl_ops 2 [(0, Pp xb 0), (5, Ni i), (11, Ni mn), (12, Ni i)] (by kernel_rfl) ?_
    refine gl_dn rfl ?_
    refine sw_sr ?_
    refine gl_ops 3 [(0, Pp xb 0), (5, Ni i), (11, Ni mn), (12, Ni i), (18, Pp xb 2)] (by kernel_rfl) ?_
    refine gl_q rfl rfl rfl (rd_loadK 1 (by kernel_rfl) hH rfl rfl rfl) ?_
    refine gl_ops 1 [(0, Pp xb 0), (5, Ni i), (11, Ni mn), (12, Ni i), (19, .map (some mb)), (20, Ni i)] (by kernel_rfl) ?_
    refine gl_q rfl rfl rfl (rd_mapgetOk (kt := 3) (e := 22) (zv := .slice none 0 0) 0 (by kernel_rfl) (by kernel_rfl) (intK_key .i64) (by kernel_rfl) hH rfl rfl (((i : Nat) : Int) : Int) rfl) ?_
    refine gl_ops 5 [(0, Pp xb 0), (5, Ni i), (7, .bool ((kget l (((i : Nat) : Int) : Int)).isSome)), (11, Ni mn), (12, Ni i)] (by kernel_rfl) ?_
    refine gl_dn rfl ?_
    refine sw_sr ?_
    refine gl_ops 2 [(0, Pp xb 0), (5, Ni i), (11, Ni mn), (12, Ni i), (25, .bool (!((kget l (((i : Nat) : Int) : Int)).isSome)))] (by kernel_rfl) ?_
    refine gl_dn rfl ?_
    refine sw_cond rfl rfl (fun hc2 => ?_) (fun hc2 => ?_)
    ·
      try simp only [Bool.not_eq_true'] at hc2
      have hnot : has rs ((i : Nat) : Int) = false := by rw [← kget_has, ← hl (by omega)]; exact hc2
      refine sw_seq ?_
      refine sw_draw (by kernel_rfl) (fun w_ => Hp w w_ (off w (blksOf [.grp (ibxO xb nb mb ⟨some (tn, ix), mn, rs⟩ l)])) (blksOf [.grp (ibxO xb nb mb ⟨some (tn, ix), mn, rs⟩ l)]) [.kmap mb (intK .i64) l, .blk xb 113 [Pp nb 0, Ni mn, .map (some mb)], .grp (ibxOwn 5 rs), .blk nb 116 [.int .i64 tn, .int .i64 ix]]) ?_
      replace hH := hH.drew
      generalize { w1 with drawn := w1.drawn + 1 } = w2 at hH ⊢
      have hS9 := hH.sublist (.cons_cons _ (.cons_cons _ (.cons_cons _ (.cons_cons _ (List.nil_sublist _)))))
      refine gd_pure 0 rfl (by kernel_rfl) (PQ.th (PQ.bk (PQ.th (PQ.th (PQ.bk (PQ.th PQ.body)))))) hS9 rfl rfl (Pp xb 0) (by kernel_rfl) ?_
      refine gd_pure 1 rfl (by kernel_rfl) (PQ.th (PQ.bk (PQ.th (PQ.th (PQ.bk (PQ.th PQ.body)))))) hS9 rfl rfl (Pp xb 0) (by kernel_rfl) ?_
      refine gd_pure 2 rfl (by kernel_rfl) (PQ.th (PQ.bk (PQ.th (PQ.th (PQ.bk (PQ.th PQ.body)))))) hS9 rfl rfl (Pp xb 0) (by kernel_rfl) ?_
      refine gd_keep [(0, Pp xb 0), (5, Ni i), (28, Pp xb 0)] (by kernel_rfl) ?_
      refine gd_q 3 rfl (by kernel_rfl) (PQ.th (PQ.bk (PQ.th (PQ.th (PQ.bk (PQ.th PQ.body)))))) hS9 rfl rfl (fun w_ hS => (rd_loadK 1 (by kernel_rfl) hS rfl rfl rfl)) ?_
      refine gd_pure 4 rfl (by kernel_rfl) (PQ.th (PQ.bk (PQ.th (PQ.th (PQ.bk (PQ.th PQ.body)))))) hS9 rfl rfl (Pp nb 0) (by kernel_rfl) ?_
      refine gd_pure 5 rfl (by kernel_rfl) (PQ.th (PQ.bk (PQ.th (PQ.th (PQ.bk (PQ.th PQ.body)))))) hS9 rfl rfl (Pp nb 1) (by kernel_rfl) ?_
      refine gd_keep [(0, Pp xb 0), (5, Ni i), (31, Pp nb 1)] (by kernel_rfl) ?_
      refine gd_q 6 rfl (by kernel_rfl) (PQ.th (PQ.bk (PQ.th (PQ.th (PQ.bk (PQ.th PQ.body)))))) hS9 rfl rfl (fun w_ hS => (rd_loadK 3 (by kernel_rfl) hS rfl rfl rfl)) ?_
      refine gd_pure 7 rfl (by kernel_rfl) (PQ.th (PQ.bk (PQ.th (PQ.th (PQ.bk (PQ.th PQ.body)))))) hS9 rfl rfl (Pp xb 0) (by kernel_rfl) ?_
      refine gd_pure 8 rfl (by kernel_rfl) (PQ.th (PQ.bk (PQ.th (PQ.th (PQ.bk (PQ.th PQ.body)))))) hS9 rfl rfl (Pp xb 0) (by kernel_rfl) ?_
      refine gd_keep [(5, Ni i), (32, .int .i64 ix), (34, Pp xb 0)] (by kernel_rfl) ?_
      refine gd_pure 9 rfl (by kernel_rfl) (PQ.th (PQ.bk (PQ.th (PQ.th (PQ.bk (PQ.th PQ.body)))))) hS9 rfl rfl (Pp xb 0) (by kernel_rfl) ?_
      refine gd_q 10 rfl (by kernel_rfl) (PQ.th (PQ.bk (PQ.th (PQ.th (PQ.bk (PQ.th PQ.body)))))) hS9 rfl rfl (fun w_ hS => (rd_loadK 1 (by kernel_rfl) hS rfl rfl rfl)) ?_
      refine gd_pure 11 rfl (by kernel_rfl) (PQ.th (PQ.bk (PQ.th (PQ.th (PQ.bk (PQ.th PQ.body)))))) hS9 rfl rfl (Pp nb 0) (by kernel_rfl) ?_
      refine gd_keep [(5, Ni i), (32, .int .i64 ix), (37, Pp nb 0)] (by kernel_rfl) ?_
      refine gd_pure 12 rfl (by kernel_rfl) (PQ.th (PQ.bk (PQ.th (PQ.th (PQ.bk (PQ.th PQ.body)))))) hS9 rfl rfl (Pp nb 0) (by kernel_rfl) ?_
      refine gd_q 13 rfl (by kernel_rfl) (PQ.th (PQ.bk (PQ.th (PQ.th (PQ.bk (PQ.th PQ.body)))))) hS9 rfl rfl (fun w_ hS => (rd_loadK 3 (by kernel_rfl) hS rfl rfl rfl)) ?_
      refine gd_pure 14 rfl (by kernel_rfl) (PQ.th (PQ.bk (PQ.th (PQ.th (PQ.bk (PQ.th PQ.body)))))) hS9 rfl rfl (Ni i) (by kernel_rfl) ?_
      refine gd_keep [(32, .int .i64 ix), (39, .int .i64 tn), (40, Ni i)] (by kernel_rfl) ?_
      refine gd_pure 15 rfl (by kernel_rfl) (PQ.th (PQ.bk (PQ.th (PQ.th (PQ.bk (PQ.th PQ.body)))))) hS9 rfl rfl (.int .i64 ix) (by kernel_rfl) ?_
      refine gd_pure 16 rfl (by kernel_rfl) (PQ.th (PQ.bk (PQ.th (PQ.th (PQ.bk (PQ.th PQ.body)))))) hS9 rfl rfl (.int .i64 tn) (by kernel_rfl) ?_
      refine gd_pure 17 rfl (by kernel_rfl) (PQ.th (PQ.bk (PQ.th (PQ.th (PQ.bk (PQ.th PQ.body)))))) hS9 rfl rfl (Ni i) (by kernel_rfl) ?_
      refine gd_keep [(2, .int .i64 ix), (3, .int .i64 tn), (4, Ni i)] (by kernel_rfl) ?_
      refine gd_done (by kernel_rfl) ?_
      refine at_sub [(2, .int .i64 ix), (3, .int .i64 tn), (4, Ni i)] (Sub.of_eq (by kernel_rfl)) ?_
      refine sw_next ?_
      refine sw_ret ?_
      refine bkR ?_
      refine thR ?_
      refine thR ?_
      refine bkR ?_
      refine thR ?_
      refine ret3 rfl rfl rfl rfl  ?_
      have hw : wantI ⟨some (tn, ix), mn, rs⟩ = (ix, tn, ((i : Nat) : Int)) := by unfold wantI; simp only; rw [wantN_some (by omega) hall hnot]
      exact ⟨by rw [hw] <;> rfl, (hH.close (r := [])).turned⟩
    try simp only [Bool.not_eq_false'] at hc2
    have hthere : has rs ((i : Nat) : Int) = true := by rw [← kget_has, ← hl (by omega)]; exact hc2
    refine sw_skip ?_
    refine bkN ?_
    refine sw_next ?_
    refine sw_region ?_
    refine gl_ops 1 [(0, Pp xb 0), (11, Ni mn), (41, .int .i64 (IntKind.i64.wrap (((i : Nat) : Int) + 1)))] (by kernel_rfl) ?_
    refine gl_cv 41 (Ni (i + 1)) (cv_i64 (by omega)) rfl ?_
    refine gl_ops 1 [(0, Pp xb 0), (11, Ni mn), (12, Ni (i + 1))] (by kernel_rfl) ?_
    refine gl_done rfl ?_
    refine rnd_end (g := (i)) (i + 1) (by kernel_rfl) ?_ ?_
    · exact ⟨by omega, fun j hj => (Nat.lt_succ_iff_lt_or_eq.1 hj).elim (hall j) (fun e => e ▸ hthere), hH⟩
    · show mn - (i + 1) < mn - i; omega
  try simp only [decide_eq_false_iff_not, Int.not_lt, Int.not_le] at hc1
  refine sw_exit ?_
  refine thX ?_
  refine thX ?_
  refine bkH ?_
  refine sw_next ?_
  refine sw_sr ?_
  refine gl_ops 3 [(2, .int .i64 0), (3, .int .i64 0), (4, .int .i64 0)] (by kernel_rfl) ?_
  refine gl_dn rfl ?_
  refine sw_ret ?_
  refine ret3 rfl rfl rfl rfl  ?_
  have hw : wantI ⟨some (tn, ix), mn, rs⟩ = (0, 0, 0) := by unfold wantI; simp only; rw [wantN_none (fun j hj => hall j (by omega))]
  exact ⟨by rw [hw] <;> rfl, (hH.close (r := [])).turned⟩
theorem WantN_ct (xb nb mb : Nat)  (l : List (Int × Value)) (w : World) (hM : Mine w [.grp (ibxO xb nb mb ⟨none, 0, []⟩ l)]) :
    Fun Tryz.prog 26 [.pointer (some ⟨xb, 0, none⟩)] w fun v w' => v = .tuple #[.int .i64 (wantI ⟨none, 0, []⟩).1, .int .i64 (wantI ⟨none, 0, []⟩).2.1, .int .i64 (wantI ⟨none, 0, []⟩).2.2] ∧ Turn w w' [.grp (ibxO xb nb mb ⟨none, 0, []⟩ l)] [.grp (ibxO xb nb mb ⟨none, 0, []⟩ l)] := by
  have hl : (0 : Nat) ≠ 0 → l = kv [] := fun h => absurd rfl h
  refine fun_of_sw Tryz.func26 rfl 42 rfl rfl ?_
  have hH : Hp w w (off w (blksOf [.grp (ibxO xb nb mb ⟨none, 0, []⟩ l)])) (blksOf [.grp (ibxO xb nb mb ⟨none, 0, []⟩ l)]) (ibxO xb nb mb ⟨none, 0, []⟩ l ++ []) := (Hp.start_mine hM).open_
  replace hH : Hp w w _ _ [.kmap mb (intK .i64) l, .blk xb 113 [.pointer none, .int .i64 0, .map (some mb)], .grp (ibxOwn 5 [])] := hH
  refine sw_sr ?_
  refine gl_ops 3 [(0, Pp xb 0)] (by kernel_rfl) ?_
  refine gl_dn rfl ?_
  refine sw_seq ?_
  refine sw_sr ?_
  refine gl_ops 3 [(0, Pp xb 0), (10, Pp xb 1)] (by kernel_rfl) ?_
  refine gl_q rfl rfl rfl (rd_loadK 1 (by kernel_rfl) hH rfl rfl rfl) ?_
  refine gl_ops 1 [(0, Pp xb 0), (11, .int .i64 0), (12, .int .i64 0)] (by kernel_rfl) ?_
  refine gl_dn rfl ?_
  refine sw_block ?_
  refine sw_unroll ?_
  refine sw_sr ?_
  refine gl_ops 1 [(0, Pp xb 0), (11, .int .i64 0), (12, .int .i64 0), (13, .bool false)] (by kernel_rfl) ?_
  refine gl_dn rfl ?_
  refine sw_seq ?_
  refine sw_false rfl rfl ?_
  refine sw_exit ?_
  refine thX ?_
  refine thX ?_
  refine bkH ?_
  refine sw_next ?_
  refine sw_sr ?_
  refine gl_ops 3 [(2, .int .i64 0), (3, .int .i64 0), (4, .int .i64 0)] (by kernel_rfl) ?_
  refine gl_dn rfl ?_
  refine sw_ret ?_
  refine ret3 rfl rfl rfl rfl  ?_
  have hw : wantI ⟨none, 0, []⟩ = (0, 0, 0) := rfl
  exact ⟨by rw [hw] <;> rfl, (hH.close (r := [])).turned⟩
end Go.Proofs.YtjcchjgkkplamaaGreatDoor
