/- Layer 20, the document's own inbox (muntinref20.Inbox): Want; Put and Want for any state. -/
import Derived.Test.YtjcchjgkkplamaaDoorRPut
set_option maxRecDepth 100000
set_option maxHeartbeats 2000000
set_option linter.unusedVariables false
set_option linter.unusedSimpArgs false
namespace Go.Proofs.YtjcchjgkkplamaaDoor
open Go.RowKit Go.SW

theorem RWantS_ct (yb : Nat) (rv tv : Value) (tn ix : Int) (mn : Nat) (rs : List (Int × Value × List UInt8)) (w : World) (hM : Mine w [.grp (rbxO yb rv tv ⟨some (tn, ix), mn, rs⟩)]) (hmn : mn ≤ 1024) :
    Fun Tryd.prog 28 [.pointer (some ⟨yb, 0, none⟩)] w fun v w' => v = .tuple #[.int .i64 (wantI ⟨some (tn, ix), mn, rs⟩).1, .int .i64 (wantI ⟨some (tn, ix), mn, rs⟩).2.1, .int .i64 (wantI ⟨some (tn, ix), mn, rs⟩).2.2] ∧ Turn w w' [.grp (rbxO yb rv tv ⟨some (tn, ix), mn, rs⟩)] [.grp (rbxO yb rv tv ⟨some (tn, ix), mn, rs⟩)] := by
  obtain ⟨Ar, cr, At, ct, rfl, rfl⟩ := rbx_forms hM
  refine fun_of_sw Tryd.func28 rfl 38 rfl rfl ?_
  have hH : Hp w w (off w (blksOf [.grp (rbxO yb (.slice Ar mn cr) (.slice At mn ct) ⟨some (tn, ix), mn, rs⟩)])) (blksOf [.grp (rbxO yb (.slice Ar mn cr) (.slice At mn ct) ⟨some (tn, ix), mn, rs⟩)]) (rbxO yb (.slice Ar mn cr) (.slice At mn ct) ⟨some (tn, ix), mn, rs⟩ ++ []) := (Hp.start_mine hM).open_
  replace hH : Hp w w (off w (blksOf [.grp (rbxO yb (.slice Ar mn cr) (.slice At mn ct) ⟨some (tn, ix), mn, rs⟩)])) (blksOf [.grp (rbxO yb (.slice Ar mn cr) (.slice At mn ct) ⟨some (tn, ix), mn, rs⟩)]) [.blk yb 58 [.bool true, .int .i64 ix, .int .i64 tn, .bool (decide (mn ≠ 0)), .slice Ar mn cr, .slice At mn ct], .row (.slice Ar mn cr) 9 1 mn (rowsL ⟨some (tn, ix), mn, rs⟩), .row (.slice At mn ct) 4 1 mn (thereL ⟨some (tn, ix), mn, rs⟩)] := hH
  refine sw_seq ?_
  refine sw_region ?_  -- R0 ref.go:183
  refine gl_ops 3 [(0, .pointer (some ⟨yb, 0, none⟩))] (by kernel_rfl) ?_
  refine gl_done rfl ?_
  refine sw_next ?_
  refine sw_seq ?_
  refine sw_seq ?_
  refine sw_region ?_  -- R1 ref.go:184
  refine gl_ops 1 [(0, .pointer (some ⟨yb, 0, none⟩)), (5, .int .i64 0)] (by kernel_rfl) ?_
  refine gl_done rfl ?_
  refine sw_next ?_
  refine sw_block ?_
  refine sw_loop (γ := Nat) (fun i => [(0, .pointer (some ⟨yb, 0, none⟩)), (5, .int .i64 ((i : Nat) : Int))]) (fun i w_ => (i ≤ mn) ∧ (∀ j : Nat, j < i → has rs (j : Int) = true) ∧ Hp w w_ (off w (blksOf [.grp (rbxO yb (.slice Ar mn cr) (.slice At mn ct) ⟨some (tn, ix), mn, rs⟩)])) (blksOf [.grp (rbxO yb (.slice Ar mn cr) (.slice At mn ct) ⟨some (tn, ix), mn, rs⟩)]) [.blk yb 58 [.bool true, .int .i64 ix, .int .i64 tn, .bool (decide (mn ≠ 0)), .slice Ar mn cr, .slice At mn ct], .row (.slice Ar mn cr) 9 1 mn (rowsL ⟨some (tn, ix), mn, rs⟩), .row (.slice At mn ct) 4 1 mn (thereL ⟨some (tn, ix), mn, rs⟩)]) (fun i => mn - i) (0) (Sub.of_eq (by kernel_rfl)) ?_ ?_
  · exact ⟨by omega, fun j hj => absurd hj (by omega), hH⟩
  clear hH
  rintro i w1 ⟨hi, hall, hH⟩
  refine sw_keep [(0, .pointer (some ⟨yb, 0, none⟩)), (5, .int .i64 ((i : Nat) : Int))] (by kernel_rfl) ?_
  refine sw_seq ?_
  refine sw_seq ?_
  refine sw_region ?_  -- R2 ref.go:184
  refine gl_ops 4 [(0, .pointer (some ⟨yb, 0, none⟩)), (5, .int .i64 ((i : Nat) : Int)), (6, .int .i64 ((i : Nat) : Int)), (9, .pointer (some ⟨yb, 4, none⟩))] (by kernel_rfl) ?_
  refine gl_q rfl rfl rfl (rd_loadK 0 (by kernel_rfl) hH rfl rfl rfl) ?_
  refine gl_q rfl rfl rfl (rd_len (e := 9) (by kernel_rfl) rfl) ?_
  refine gl_ops 2 [(0, .pointer (some ⟨yb, 0, none⟩)), (5, .int .i64 ((i : Nat) : Int)), (13, .bool (decide (((i : Nat) : Int) < ((mn : Nat) : Int))))] (by kernel_rfl) ?_
  refine gl_split 13 (b := decide (((i : Nat) : Int) < ((mn : Nat) : Int))) rfl (fun hg1 => ?_) (fun hg1 => ?_)
  ·
    try simp only [decide_eq_true_eq, beq_iff_eq, bne_iff_ne, ne_eq, Bool.not_eq_true', beq_eq_false_iff_ne, bne_eq_false_iff_eq, decide_eq_false_iff_not, Int.not_lt, Int.not_le] at hg1
    refine gl_ops 3 [(0, .pointer (some ⟨yb, 0, none⟩)), (5, .int .i64 ((i : Nat) : Int)), (13, .bool true), (16, .pointer (some ⟨yb, 3, none⟩))] (by kernel_rfl) ?_
    refine gl_q rfl rfl rfl (rd_loadK 0 (by kernel_rfl) hH rfl rfl rfl) ?_
    refine gl_ops 1 [(0, .pointer (some ⟨yb, 0, none⟩)), (5, .int .i64 ((i : Nat) : Int)), (18, .bool (decide (mn ≠ 0)))] (by kernel_rfl) ?_
    refine gl_done rfl ?_
    refine sw_next ?_
    refine sw_cond rfl rfl (fun hc2 => ?_) (fun hc2 => ?_)
    rotate_left
    · exact absurd hc2 (by simp only [decide_eq_false_iff_not, beq_eq_false_iff_ne, bne_eq_false_iff_eq, ne_eq, Decidable.not_not, Int.not_lt, Int.not_le]; omega)
    clear hc2
    refine sw_skip ?_
    refine sw_next ?_
    refine sw_seq ?_
    refine sw_block ?_
    refine sw_seq ?_
    refine sw_region ?_  -- R4 ref.go:185
    refine gl_ops 3 [(0, .pointer (some ⟨yb, 0, none⟩)), (5, .int .i64 ((i : Nat) : Int)), (23, .pointer (some ⟨yb, 5, none⟩))] (by kernel_rfl) ?_
    refine gl_q rfl rfl rfl (rd_loadK 0 (by kernel_rfl) hH rfl rfl rfl) ?_
    obtain ⟨b3, hb2, hi4⟩ := hH.row_idx 2 rfl i (by omega)
    refine gl_ops 1 [(0, .pointer (some ⟨yb, 0, none⟩)), (5, .int .i64 ((i : Nat) : Int)), (24, .slice At mn ct), (25, .int .i64 ((i : Nat) : Int))] (by kernel_rfl) ?_
    refine gl_q rfl rfl rfl (rd_idx (e := 4) (m := 1) (by kernel_rfl) (by kernel_rfl) rfl rfl hi4) ?_
    refine gl_q rfl rfl rfl (rd_loadO 2 (by kernel_rfl) hH rfl rfl hb2 (thereL_at ⟨some (tn, ix), mn, rs⟩ i (show i < mn by omega))) ?_
    refine gl_ops 1 [(0, .pointer (some ⟨yb, 0, none⟩)), (5, .int .i64 ((i : Nat) : Int)), (28, .bool (!(has rs ((i : Nat) : Int))))] (by kernel_rfl) ?_
    refine gl_done rfl ?_
    refine sw_next ?_
    refine sw_cond rfl rfl (fun hc3 => ?_) (fun hc3 => ?_)
    ·
      try simp only [decide_eq_true_eq, beq_iff_eq, bne_iff_ne, ne_eq, Bool.not_eq_true', beq_eq_false_iff_ne, bne_eq_false_iff_eq, decide_eq_false_iff_not, Int.not_lt, Int.not_le] at hc3
      have hnot := hc3
      refine sw_seq ?_
      refine sw_draw (by kernel_rfl) (fun w_ => Hp w w_ (off w (blksOf [.grp (rbxO yb (.slice Ar mn cr) (.slice At mn ct) ⟨some (tn, ix), mn, rs⟩)])) (blksOf [.grp (rbxO yb (.slice Ar mn cr) (.slice At mn ct) ⟨some (tn, ix), mn, rs⟩)]) [.blk yb 58 [.bool true, .int .i64 ix, .int .i64 tn, .bool (decide (mn ≠ 0)), .slice Ar mn cr, .slice At mn ct], .row (.slice Ar mn cr) 9 1 mn (rowsL ⟨some (tn, ix), mn, rs⟩), .row (.slice At mn ct) 4 1 mn (thereL ⟨some (tn, ix), mn, rs⟩)]) ?_  -- R5 ref.go:186
      replace hH := hH.drew
      generalize { w1 with drawn := w1.drawn + 1 } = w5 at hH ⊢
      refine gd_pure 0 rfl (by kernel_rfl) (PQ.th (PQ.bk (PQ.th (PQ.th (PQ.bk (PQ.th PQ.body)))))) (hH.sublist (.cons_cons _ (.cons_cons _ (.cons_cons _ (List.nil_sublist _))))) rfl rfl (.pointer (some ⟨yb, 0, none⟩)) (by kernel_rfl) ?_
      refine gd_pure 1 rfl (by kernel_rfl) (PQ.th (PQ.bk (PQ.th (PQ.th (PQ.bk (PQ.th PQ.body)))))) (hH.sublist (.cons_cons _ (.cons_cons _ (.cons_cons _ (List.nil_sublist _))))) rfl rfl (.pointer (some ⟨yb, 0, none⟩)) (by kernel_rfl) ?_
      refine gd_pure 2 rfl (by kernel_rfl) (PQ.th (PQ.bk (PQ.th (PQ.th (PQ.bk (PQ.th PQ.body)))))) (hH.sublist (.cons_cons _ (.cons_cons _ (.cons_cons _ (List.nil_sublist _))))) rfl rfl (.pointer (some ⟨yb, 1, none⟩)) (by kernel_rfl) ?_
      refine gd_keep [(0, .pointer (some ⟨yb, 0, none⟩)), (5, .int .i64 ((i : Nat) : Int)), (31, .pointer (some ⟨yb, 1, none⟩))] (by kernel_rfl) ?_
      refine gd_q 3 rfl (by kernel_rfl) (PQ.th (PQ.bk (PQ.th (PQ.th (PQ.bk (PQ.th PQ.body)))))) (hH.sublist (.cons_cons _ (.cons_cons _ (.cons_cons _ (List.nil_sublist _))))) rfl rfl (fun w_ hS => (rd_loadK 0 (by kernel_rfl) hS rfl rfl rfl)) ?_
      refine gd_pure 4 rfl (by kernel_rfl) (PQ.th (PQ.bk (PQ.th (PQ.th (PQ.bk (PQ.th PQ.body)))))) (hH.sublist (.cons_cons _ (.cons_cons _ (.cons_cons _ (List.nil_sublist _))))) rfl rfl (.pointer (some ⟨yb, 0, none⟩)) (by kernel_rfl) ?_
      refine gd_pure 5 rfl (by kernel_rfl) (PQ.th (PQ.bk (PQ.th (PQ.th (PQ.bk (PQ.th PQ.body)))))) (hH.sublist (.cons_cons _ (.cons_cons _ (.cons_cons _ (List.nil_sublist _))))) rfl rfl (.pointer (some ⟨yb, 0, none⟩)) (by kernel_rfl) ?_
      refine gd_keep [(5, .int .i64 ((i : Nat) : Int)), (32, .int .i64 ix), (34, .pointer (some ⟨yb, 0, none⟩))] (by kernel_rfl) ?_
      refine gd_pure 6 rfl (by kernel_rfl) (PQ.th (PQ.bk (PQ.th (PQ.th (PQ.bk (PQ.th PQ.body)))))) (hH.sublist (.cons_cons _ (.cons_cons _ (.cons_cons _ (List.nil_sublist _))))) rfl rfl (.pointer (some ⟨yb, 2, none⟩)) (by kernel_rfl) ?_
      refine gd_q 7 rfl (by kernel_rfl) (PQ.th (PQ.bk (PQ.th (PQ.th (PQ.bk (PQ.th PQ.body)))))) (hH.sublist (.cons_cons _ (.cons_cons _ (.cons_cons _ (List.nil_sublist _))))) rfl rfl (fun w_ hS => (rd_loadK 0 (by kernel_rfl) hS rfl rfl rfl)) ?_
      refine gd_pure 8 rfl (by kernel_rfl) (PQ.th (PQ.bk (PQ.th (PQ.th (PQ.bk (PQ.th PQ.body)))))) (hH.sublist (.cons_cons _ (.cons_cons _ (.cons_cons _ (List.nil_sublist _))))) rfl rfl (.int .i64 ((i : Nat) : Int)) (by kernel_rfl) ?_
      refine gd_keep [(32, .int .i64 ix), (36, .int .i64 tn), (37, .int .i64 ((i : Nat) : Int))] (by kernel_rfl) ?_
      refine gd_pure 9 rfl (by kernel_rfl) (PQ.th (PQ.bk (PQ.th (PQ.th (PQ.bk (PQ.th PQ.body)))))) (hH.sublist (.cons_cons _ (.cons_cons _ (.cons_cons _ (List.nil_sublist _))))) rfl rfl (.int .i64 ix) (by kernel_rfl) ?_
      refine gd_pure 10 rfl (by kernel_rfl) (PQ.th (PQ.bk (PQ.th (PQ.th (PQ.bk (PQ.th PQ.body)))))) (hH.sublist (.cons_cons _ (.cons_cons _ (.cons_cons _ (List.nil_sublist _))))) rfl rfl (.int .i64 tn) (by kernel_rfl) ?_
      refine gd_pure 11 rfl (by kernel_rfl) (PQ.th (PQ.bk (PQ.th (PQ.th (PQ.bk (PQ.th PQ.body)))))) (hH.sublist (.cons_cons _ (.cons_cons _ (.cons_cons _ (List.nil_sublist _))))) rfl rfl (.int .i64 ((i : Nat) : Int)) (by kernel_rfl) ?_
      refine gd_keep [(2, .int .i64 ix), (3, .int .i64 tn), (4, .int .i64 ((i : Nat) : Int))] (by kernel_rfl) ?_
      refine gd_done (by kernel_rfl) ?_
      refine at_sub [(2, .int .i64 ix), (3, .int .i64 tn), (4, .int .i64 ((i : Nat) : Int))] (Sub.of_eq (by kernel_rfl)) ?_
      refine sw_next ?_
      refine sw_ret ?_
      refine bkR ?_
      refine thR ?_
      refine thR ?_
      refine bkR ?_
      refine thR ?_
      refine ret3 rfl rfl rfl rfl  ?_
      have hw : wantI ⟨some (tn, ix), mn, rs⟩ = (ix, tn, ((i : Nat) : Int)) := by unfold wantI; simp only; rw [wantN_some (by omega) hall hnot]
      exact ⟨by rw [hw] <;> rfl, (hH.close (r := [])).turned⟩
    try simp only [decide_eq_false_iff_not, beq_eq_false_iff_ne, bne_eq_false_iff_eq, ne_eq, Decidable.not_not, Int.not_lt, Int.not_le, Bool.not_eq_false', beq_iff_eq, bne_iff_ne, decide_eq_true_eq] at hc3
    have hthere := hc3
    refine sw_skip ?_
    refine bkN ?_
    refine sw_next ?_
    refine sw_region ?_  -- R3 ref.go:184
    refine gl_ops 2 [(0, .pointer (some ⟨yb, 0, none⟩)), (20, .int .i64 (IntKind.i64.wrap (((i : Nat) : Int) + 1)))] (by kernel_rfl) ?_
    refine gl_cv 20 (.int .i64 ((i + 1 : Nat) : Int)) (cv_i64 (by omega)) rfl ?_
    refine gl_ops 1 [(0, .pointer (some ⟨yb, 0, none⟩)), (5, .int .i64 ((i + 1 : Nat) : Int))] (by kernel_rfl) ?_
    refine gl_done rfl ?_
    refine rnd_end (g := (i)) (i + 1) (by kernel_rfl) ?_ ?_
    · exact ⟨by omega, fun j hj => (Nat.lt_succ_iff_lt_or_eq.1 hj).elim (hall j) (fun e => e ▸ hthere), hH⟩
    · show mn - (i + 1) < mn - i; omega
  try simp only [decide_eq_false_iff_not, beq_eq_false_iff_ne, bne_eq_false_iff_eq, ne_eq, Decidable.not_not, Int.not_lt, Int.not_le, Bool.not_eq_false', beq_iff_eq, bne_iff_ne, decide_eq_true_eq] at hg1
  refine gl_ops 5 [(0, .pointer (some ⟨yb, 0, none⟩)), (5, .int .i64 ((i : Nat) : Int)), (18, .bool false)] (by kernel_rfl) ?_
  refine gl_done rfl ?_
  refine sw_next ?_
  refine sw_false rfl rfl ?_
  refine sw_exit ?_
  refine thX ?_
  refine thX ?_
  refine bkH ?_
  refine sw_next ?_
  refine sw_seq ?_
  refine sw_region ?_  -- R6 ref.go:189
  refine gl_ops 3 [(2, .int .i64 0), (3, .int .i64 0), (4, .int .i64 0)] (by kernel_rfl) ?_
  refine gl_done rfl ?_
  refine sw_next ?_
  refine sw_ret ?_
  refine ret3 rfl rfl rfl rfl  ?_
  have hw : wantI ⟨some (tn, ix), mn, rs⟩ = (0, 0, 0) := by unfold wantI; simp only; rw [wantN_none (fun j hj => hall j (by omega))]
  exact ⟨by rw [hw] <;> rfl, (hH.close (r := [])).turned⟩
theorem RWantN_ct (yb : Nat) (rv tv : Value)  (w : World) (hM : Mine w [.grp (rbxO yb rv tv ⟨none, 0, []⟩)]) :
    Fun Tryd.prog 28 [.pointer (some ⟨yb, 0, none⟩)] w fun v w' => v = .tuple #[.int .i64 (wantI ⟨none, 0, []⟩).1, .int .i64 (wantI ⟨none, 0, []⟩).2.1, .int .i64 (wantI ⟨none, 0, []⟩).2.2] ∧ Turn w w' [.grp (rbxO yb rv tv ⟨none, 0, []⟩)] [.grp (rbxO yb rv tv ⟨none, 0, []⟩)] := by
  obtain ⟨Ar, cr, At, ct, rfl, rfl⟩ := rbx_forms hM
  refine fun_of_sw Tryd.func28 rfl 38 rfl rfl ?_
  have hH : Hp w w (off w (blksOf [.grp (rbxO yb (.slice Ar 0 cr) (.slice At 0 ct) ⟨none, 0, []⟩)])) (blksOf [.grp (rbxO yb (.slice Ar 0 cr) (.slice At 0 ct) ⟨none, 0, []⟩)]) (rbxO yb (.slice Ar 0 cr) (.slice At 0 ct) ⟨none, 0, []⟩ ++ []) := (Hp.start_mine hM).open_
  replace hH : Hp w w (off w (blksOf [.grp (rbxO yb (.slice Ar 0 cr) (.slice At 0 ct) ⟨none, 0, []⟩)])) (blksOf [.grp (rbxO yb (.slice Ar 0 cr) (.slice At 0 ct) ⟨none, 0, []⟩)]) [.blk yb 58 [.bool false, .int .i64 0, .int .i64 0, .bool false, .slice Ar 0 cr, .slice At 0 ct], .row (.slice Ar 0 cr) 9 1 0 (rowsL ⟨none, 0, []⟩), .row (.slice At 0 ct) 4 1 0 (thereL ⟨none, 0, []⟩)] := hH
  refine sw_seq ?_
  refine sw_region ?_  -- R0 ref.go:183
  refine gl_ops 3 [(0, .pointer (some ⟨yb, 0, none⟩))] (by kernel_rfl) ?_
  refine gl_done rfl ?_
  refine sw_next ?_
  refine sw_seq ?_
  refine sw_seq ?_
  refine sw_region ?_  -- R1 ref.go:184
  refine gl_ops 1 [(0, .pointer (some ⟨yb, 0, none⟩)), (5, .int .i64 0)] (by kernel_rfl) ?_
  refine gl_done rfl ?_
  refine sw_next ?_
  refine sw_block ?_
  refine sw_unroll ?_
  refine sw_seq ?_
  refine sw_seq ?_
  refine sw_region ?_  -- R2 ref.go:184
  refine gl_ops 4 [(0, .pointer (some ⟨yb, 0, none⟩)), (5, .int .i64 0), (6, .int .i64 0), (9, .pointer (some ⟨yb, 4, none⟩))] (by kernel_rfl) ?_
  refine gl_q rfl rfl rfl (rd_loadK 0 (by kernel_rfl) hH rfl rfl rfl) ?_
  refine gl_q rfl rfl rfl (rd_len (e := 9) (by kernel_rfl) rfl) ?_
  refine gl_ops 7 [(0, .pointer (some ⟨yb, 0, none⟩)), (5, .int .i64 0), (18, .bool false)] (by kernel_rfl) ?_
  refine gl_done rfl ?_
  refine sw_next ?_
  refine sw_false rfl rfl ?_
  refine sw_exit ?_
  refine thX ?_
  refine thX ?_
  refine bkH ?_
  refine sw_next ?_
  refine sw_seq ?_
  refine sw_region ?_  -- R6 ref.go:189
  refine gl_ops 3 [(2, .int .i64 0), (3, .int .i64 0), (4, .int .i64 0)] (by kernel_rfl) ?_
  refine gl_done rfl ?_
  refine sw_next ?_
  refine sw_ret ?_
  refine ret3 rfl rfl rfl rfl  ?_
  have hw : wantI ⟨none, 0, []⟩ = (0, 0, 0) := rfl
  exact ⟨by rw [hw] <;> rfl, (hH.close (r := [])).turned⟩
theorem RPut_ct (yb : Nat) (rv tv : Value) (S : Ibx) (l : List (Int × Value)) (p : Prt) (vb : Value) (nv : Value) (R : Ibx × Snp × Bool × Nat) (hR : R = putI S p nv) (w : World) (hM : Mine w [.grp (rbxO yb rv tv S)]) (hb : RB (off w (blksOf [.grp (rbxO yb rv tv S)])) vb p.bytes) (hp : p.I64) (hF : S.Fit l) (hK : S.Keyed) :
    Fun Tryd.prog 26 [.pointer (some ⟨yb, 0, none⟩), .agg #[.int .i64 p.idx, .int .i64 p.term, .int .i64 p.n, .int .i64 p.many, vb]] w fun v w' => ∃ rv' tv' v1 v2,
      v = .tuple #[.agg #[.int .i64 R.2.1.idx, .int .i64 R.2.1.term, v1, v2], .bool R.2.2.1, .int .i64 ((R.2.2.2 : Nat) : Int)] ∧
      Turn w w' [.grp (rbxO yb rv tv S)] [.grp (rbxO yb rv' tv' R.1), .row v1 5 1 R.2.1.conf.length (bv R.2.1.conf), .row v2 5 1 R.2.1.data.length (bv R.2.1.data)] := by
  subst hR
  obtain ⟨new, many, rs⟩ := S
  cases new with
  | none =>
    obtain ⟨h1, h2⟩ := hF.nil rfl
    simp only at h1 h2
    subst h1; subst h2
    exact RPutN_ct yb rv tv p vb nv w hM hb hp
  | some u =>
    obtain ⟨tn, ix⟩ := u
    exact RPutS_ct yb rv tv tn ix many rs p vb nv w hM hb hp hF.ok hK
theorem RWant_ct (yb : Nat) (rv tv : Value) (S : Ibx) (l : List (Int × Value)) (w : World) (hM : Mine w [.grp (rbxO yb rv tv S)]) (hF : S.Fit l) :
    Fun Tryd.prog 28 [.pointer (some ⟨yb, 0, none⟩)] w fun v w' => v = .tuple #[.int .i64 (wantI S).1, .int .i64 (wantI S).2.1, .int .i64 (wantI S).2.2] ∧ Turn w w' [.grp (rbxO yb rv tv S)] [.grp (rbxO yb rv tv S)] := by
  obtain ⟨new, many, rs⟩ := S
  cases new with
  | none =>
    obtain ⟨h1, h2⟩ := hF.nil rfl
    simp only at h1 h2
    subst h1; subst h2
    exact RWantN_ct yb rv tv w hM
  | some u =>
    obtain ⟨tn, ix⟩ := u
    exact RWantS_ct yb rv tv tn ix many rs w hM hF.ok.many

end Go.Proofs.YtjcchjgkkplamaaDoor
