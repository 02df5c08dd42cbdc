/- Layer 20, the document's own answer: Split, SameParts. -/
import Derived.Test.YtjcchjgkkplamaaDoorRef20
set_option maxRecDepth 100000
set_option maxHeartbeats 2000000
set_option linter.unusedVariables false
set_option linter.unusedSimpArgs false
namespace Go.Proofs.YtjcchjgkkplamaaDoor
open Go.RowKit Go.SW
theorem chunk_cells (b : List UInt8) (k : Nat) (h : 512 * k < b.length) : ((bv b).drop (k * 512 * 1)).take ((min b.length ((k + 1) * 512) - k * 512) * 1) = bv (chunkB b k) := by
  unfold chunkB bv
  rw [List.map_take, List.map_drop, Nat.mul_one, Nat.mul_one, Nat.mul_comm k 512]
  by_cases hk : (k + 1) * 512 ≤ b.length
  · congr 1; omega
  · rw [List.take_of_length_le (by simp; omega), List.take_of_length_le (by simp; omega)]
theorem chunk_len (b : List UInt8) (k : Nat) (h : 512 * k < b.length) : 0 + (min b.length ((k + 1) * 512) - k * 512) = (chunkB b k).length := by rw [chunkB_length]; omega

theorem RSplit_ct (i t : Int) (vc vd : Value) (cf dt : List UInt8) (w : World) (hc : RB w.cell? vc cf) (hd : RB w.cell? vd dt) (hi : -9223372036854775808 ≤ i ∧ i ≤ 9223372036854775807) (ht : -9223372036854775808 ≤ t ∧ t ≤ 9223372036854775807) (hdl : dt.length ≤ 140737488355328) :
    Fun Tryd.prog 19 [.agg #[.int .i64 i, .int .i64 t, vc, vd]] w fun v w' => ∃ v1 vs, v = .tuple #[v1, .int .i64 ((splitE i t cf dt : Nat) : Int)] ∧ vs.length = nch (splitB i t cf dt).length ∧ Fresh w w' [.row v1 48 5 vs.length (partsC i t vs.length vs), .grp (partOwn 5 (splitB i t cf dt) vs)] := by
  obtain ⟨Ac, cc, rfl, hc1, hc2⟩ := hc.row.form
  obtain ⟨Ad, cd, rfl, hd1, hd2⟩ := hd.row.form
  have hbl := bytesV_length_le i t cf dt
  refine fun_of_sw Tryd.func19 rfl 54 rfl rfl ?_
  have hH := Hp.start w
  refine sw_seq ?_
  refine sw_region ?_  -- R0 ref.go:86
  refine gl_st (st_boxH (cs := [.int .i64 i, .int .i64 t, .slice Ac cf.length cc, .slice Ad dt.length cd]) rfl rfl rfl rfl hH ?_)
  clear hH; intro b1 w2 hH
  refine gl_ops 2 [(1, .pointer (some ⟨b1, 0, none⟩))] (by kernel_rfl) ?_
  refine gl_done rfl ?_
  refine sw_next ?_
  refine sw_seq ?_
  refine sw_region ?_  -- R1 ref.go:87
  refine gl_q rfl rfl rfl (rd_loadKA (m := 4) 0 (by kernel_rfl) hH rfl rfl (by kernel_rfl) [.int .i64 i, .int .i64 t, .slice Ac cf.length cc, .slice Ad dt.length cd] rfl rfl) ?_
  refine gl_st (st_call rfl rfl rfl (by kernel_rfl) rfl (RBytes_ct (i : Int) (t : Int) _ _ _ _ _ (hc.mono hH.zin) (hd.mono hH.zin) (by omega) (by omega) (by omega)) ?_)
  rintro _ w5 ⟨v3, rfl, hF6⟩
  replace hH := hH.call hF6; clear hF6
  obtain ⟨A7, c8, rfl, hl9, hm10⟩ := hH.row_form 1 rfl
  refine gl_ops 5 [(1, .pointer (some ⟨b1, 0, none⟩)), (4, .slice A7 (((bytesV (i : Int) (t : Int) cf dt).1).length) c8), (5, .int .i64 (((bytesV (i : Int) (t : Int) cf dt).2 : Nat) : Int))] (by kernel_rfl) ?_
  refine gl_done rfl ?_
  refine sw_next ?_
  refine sw_seq ?_
  refine sw_seq ?_
  refine sw_region ?_  -- R2 ref.go:88
  refine gl_ops 2 [(1, .pointer (some ⟨b1, 0, none⟩)), (4, .slice A7 (((bytesV (i : Int) (t : Int) cf dt).1).length) c8), (5, .int .i64 (((bytesV (i : Int) (t : Int) cf dt).2 : Nat) : Int)), (16, .bool ((((bytesV (i : Int) (t : Int) cf dt).2 : Nat) : Int) != (0 : Int)))] (by kernel_rfl) ?_
  refine gl_done rfl ?_
  refine sw_next ?_
  refine sw_cond rfl rfl (fun hc1 => ?_) (fun hc1 => ?_)
  ·
    try simp only [decide_eq_true_eq, beq_iff_eq, bne_iff_ne, ne_eq, Bool.not_eq_true', beq_eq_false_iff_ne, bne_eq_false_iff_eq, decide_eq_false_iff_not, Int.not_lt, Int.not_le] at hc1
    refine sw_seq ?_
    refine sw_region ?_  -- R3 ref.go:89
    refine gl_ops 3 [(2, .slice none 0 0), (3, .int .i64 (((bytesV (i : Int) (t : Int) cf dt).2 : Nat) : Int))] (by kernel_rfl) ?_
    refine gl_done rfl ?_
    refine sw_next ?_
    refine sw_ret ?_
    refine thR ?_
    refine ret2 rfl rfl rfl  ?_
    exact ⟨_, [], by rw [(bytesV_err (by omega)).1] <;> rfl, by rw [(bytesV_err (by omega)).2] <;> rfl, (((hH.sublist (List.nil_sublist _)).nilRow 48 5).nogrp).fresh⟩
  try simp only [decide_eq_false_iff_not, beq_eq_false_iff_ne, bne_eq_false_iff_eq, ne_eq, Decidable.not_not, Int.not_lt, Int.not_le, Bool.not_eq_false', beq_iff_eq, bne_iff_ne, decide_eq_true_eq] at hc1
  refine sw_skip ?_
  refine sw_next ?_
  refine sw_seq ?_
  refine sw_region ?_  -- R4 ref.go:91
  refine gl_ops 1 [(1, .pointer (some ⟨b1, 0, none⟩)), (4, .slice A7 (((bytesV (i : Int) (t : Int) cf dt).1).length) c8), (18, .slice A7 (((bytesV (i : Int) (t : Int) cf dt).1).length) c8)] (by kernel_rfl) ?_
  refine gl_q rfl rfl rfl (rd_len (e := 5) (by kernel_rfl) rfl) ?_
  refine gl_ops 1 [(1, .pointer (some ⟨b1, 0, none⟩)), (4, .slice A7 (((bytesV (i : Int) (t : Int) cf dt).1).length) c8), (20, .int .i64 (IntKind.i64.wrap (((((bytesV (i : Int) (t : Int) cf dt).1).length : Nat) : Int) + 512)))] (by kernel_rfl) ?_
  refine gl_cv 20 (.int .i64 (((((bytesV (i : Int) (t : Int) cf dt).1).length) + 512 : Nat) : Int)) (cv_i64 (by omega)) rfl ?_
  refine gl_ops 1 [(1, .pointer (some ⟨b1, 0, none⟩)), (4, .slice A7 (((bytesV (i : Int) (t : Int) cf dt).1).length) c8), (21, .int .i64 (IntKind.i64.wrap ((((((bytesV (i : Int) (t : Int) cf dt).1).length) + 512 : Nat) : Int) - 1)))] (by kernel_rfl) ?_
  refine gl_cv 21 (.int .i64 ((((((bytesV (i : Int) (t : Int) cf dt).1).length) + 512) - 1 : Nat) : Int)) (cv_i64 (by omega)) rfl ?_
  refine gl_ops 1 [(1, .pointer (some ⟨b1, 0, none⟩)), (4, .slice A7 (((bytesV (i : Int) (t : Int) cf dt).1).length) c8), (22, .int .i64 (IntKind.i64.wrap (Int.tdiv ((((((bytesV (i : Int) (t : Int) cf dt).1).length) + 512) - 1 : Nat) : Int) 512)))] (by kernel_rfl) ?_
  refine gl_cv 22 (.int .i64 ((nch (bytesV (i : Int) (t : Int) cf dt).1.length : Nat) : Int)) (by unfold nch; exact cvq_i64 (by omega)) rfl ?_
  refine gl_ops 1 [(1, .pointer (some ⟨b1, 0, none⟩)), (4, .slice A7 (((bytesV (i : Int) (t : Int) cf dt).1).length) c8), (6, .int .i64 ((nch (bytesV (i : Int) (t : Int) cf dt).1.length : Nat) : Int))] (by kernel_rfl) ?_
  refine gl_done rfl ?_
  refine sw_next ?_
  refine sw_seq ?_
  refine sw_seq ?_
  refine sw_region ?_  -- R5 ref.go:92
  refine gl_ops 2 [(1, .pointer (some ⟨b1, 0, none⟩)), (4, .slice A7 (((bytesV (i : Int) (t : Int) cf dt).1).length) c8), (6, .int .i64 ((nch (bytesV (i : Int) (t : Int) cf dt).1.length : Nat) : Int)), (24, .bool (decide (((nch (bytesV (i : Int) (t : Int) cf dt).1.length : Nat) : Int) > (1024 : Int))))] (by kernel_rfl) ?_
  refine gl_done rfl ?_
  refine sw_next ?_
  refine sw_cond rfl rfl (fun hc2 => ?_) (fun hc2 => ?_)
  ·
    try simp only [decide_eq_true_eq, beq_iff_eq, bne_iff_ne, ne_eq, Bool.not_eq_true', beq_eq_false_iff_ne, bne_eq_false_iff_eq, decide_eq_false_iff_not, Int.not_lt, Int.not_le] at hc2
    refine sw_seq ?_
    refine sw_region ?_  -- R6 ref.go:93
    refine gl_ops 2 [(2, .slice none 0 0), (3, .int .i64 2)] (by kernel_rfl) ?_
    refine gl_done rfl ?_
    refine sw_next ?_
    refine sw_ret ?_
    refine thR ?_
    refine ret2 rfl rfl rfl  ?_
    exact ⟨_, [], by rw [(split_long (by omega) (by omega)).1] <;> rfl, by rw [(split_long (by omega) (by omega)).2] <;> rfl, (((hH.sublist (List.nil_sublist _)).nilRow 48 5).nogrp).fresh⟩
  try simp only [decide_eq_false_iff_not, beq_eq_false_iff_ne, bne_eq_false_iff_eq, ne_eq, Decidable.not_not, Int.not_lt, Int.not_le, Bool.not_eq_false', beq_iff_eq, bne_iff_ne, decide_eq_true_eq] at hc2
  refine sw_skip ?_
  refine sw_next ?_
  refine sw_seq ?_
  refine sw_region ?_  -- R7 ref.go:95
  refine gl_ops 1 [(1, .pointer (some ⟨b1, 0, none⟩)), (4, .slice A7 (((bytesV (i : Int) (t : Int) cf dt).1).length) c8), (6, .int .i64 ((nch (bytesV (i : Int) (t : Int) cf dt).1.length : Nat) : Int)), (7, .slice none 0 0)] (by kernel_rfl) ?_
  replace hH := hH.nilRow 48 5
  replace hH := hH.nogrp
  refine gl_done rfl ?_
  refine sw_next ?_
  refine sw_seq ?_
  refine sw_seq ?_
  refine sw_region ?_  -- R8 ref.go:96
  refine gl_ops 1 [(1, .pointer (some ⟨b1, 0, none⟩)), (4, .slice A7 (((bytesV (i : Int) (t : Int) cf dt).1).length) c8), (6, .int .i64 ((nch (bytesV (i : Int) (t : Int) cf dt).1.length : Nat) : Int)), (7, .slice none 0 0), (8, .int .i64 0)] (by kernel_rfl) ?_
  refine gl_done rfl ?_
  refine sw_next ?_
  refine sw_block ?_
  refine sw_loop (γ := List Value × Option Addr × Nat) (fun (vs, A, c) => [(1, .pointer (some ⟨b1, 0, none⟩)), (4, .slice A7 (((bytesV (i : Int) (t : Int) cf dt).1).length) c8), (6, .int .i64 ((nch (bytesV (i : Int) (t : Int) cf dt).1.length : Nat) : Int)), (7, .slice A vs.length c), (8, .int .i64 ((vs.length : Nat) : Int))]) (fun (vs, A, c) w_ => (vs.length ≤ nch (bytesV (i : Int) (t : Int) cf dt).1.length) ∧ Hp w w_ (w.cell?) [] [.blk b1 24 [.int .i64 i, .int .i64 t, .slice Ac cf.length cc, .slice Ad dt.length cd], .row (.slice A7 (((bytesV (i : Int) (t : Int) cf dt).1).length) c8) 5 1 (((bytesV (i : Int) (t : Int) cf dt).1).length) (bv ((bytesV (i : Int) (t : Int) cf dt).1)), .row (.slice A (vs.length) c) 48 5 vs.length (partsC i t (nch (bytesV (i : Int) (t : Int) cf dt).1.length) vs), .grp (partOwn 5 (bytesV (i : Int) (t : Int) cf dt).1 vs)]) (fun (vs, A, c) => nch (bytesV (i : Int) (t : Int) cf dt).1.length - vs.length) ([], none, 0) (Sub.of_eq (by kernel_rfl)) ?_ ?_
  replace hH : Hp w w5 (w.cell?) [] [.blk b1 24 [.int .i64 i, .int .i64 t, .slice Ac cf.length cc, .slice Ad dt.length cd], .row (.slice A7 (((bytesV (i : Int) (t : Int) cf dt).1).length) c8) 5 1 (((bytesV (i : Int) (t : Int) cf dt).1).length) (bv ((bytesV (i : Int) (t : Int) cf dt).1)), .row (.slice none 0 0) 48 5 0 [], .grp []] := hH
  · exact ⟨by simp, ((hH.pick [0, 1, 2, 3] (by kernel_rfl) (os' := [.blk b1 24 [.int .i64 i, .int .i64 t, .slice Ac cf.length cc, .slice Ad dt.length cd], .row (.slice A7 (((bytesV (i : Int) (t : Int) cf dt).1).length) c8) 5 1 (((bytesV (i : Int) (t : Int) cf dt).1).length) (bv ((bytesV (i : Int) (t : Int) cf dt).1)), .row (.slice none 0 0) 48 5 0 [], .grp []]) (by kernel_rfl)).sublist (.cons_cons _ (.cons_cons _ (.cons_cons _ (.cons_cons _ (List.nil_sublist _))))))⟩
  clear hH
  rintro ⟨vs, A, c⟩ w11 ⟨hvs, hH⟩
  refine sw_keep [(1, .pointer (some ⟨b1, 0, none⟩)), (4, .slice A7 (((bytesV (i : Int) (t : Int) cf dt).1).length) c8), (6, .int .i64 ((nch (bytesV (i : Int) (t : Int) cf dt).1.length : Nat) : Int)), (7, .slice A vs.length c), (8, .int .i64 ((vs.length : Nat) : Int))] (by kernel_rfl) ?_
  refine sw_seq ?_
  refine sw_seq ?_
  refine sw_region ?_  -- R9 ref.go:96
  refine gl_ops 3 [(1, .pointer (some ⟨b1, 0, none⟩)), (4, .slice A7 (((bytesV (i : Int) (t : Int) cf dt).1).length) c8), (6, .int .i64 ((nch (bytesV (i : Int) (t : Int) cf dt).1.length : Nat) : Int)), (7, .slice A vs.length c), (8, .int .i64 ((vs.length : Nat) : Int)), (27, .bool (decide (((vs.length : Nat) : Int) < ((nch (bytesV (i : Int) (t : Int) cf dt).1.length : Nat) : Int))))] (by kernel_rfl) ?_
  refine gl_done rfl ?_
  refine sw_next ?_
  refine sw_cond rfl rfl (fun hc3 => ?_) (fun hc3 => ?_)
  ·
    try simp only [decide_eq_true_eq, beq_iff_eq, bne_iff_ne, ne_eq, Bool.not_eq_true', beq_eq_false_iff_ne, bne_eq_false_iff_eq, decide_eq_false_iff_not, Int.not_lt, Int.not_le] at hc3
    have hlt : 512 * vs.length < (bytesV (i : Int) (t : Int) cf dt).1.length := by unfold nch at *; omega
    have hcl := chunkB_length (bytesV (i : Int) (t : Int) cf dt).1 vs.length
    refine sw_skip ?_
    refine sw_next ?_
    refine sw_seq ?_
    refine sw_block ?_
    refine sw_seq ?_
    refine sw_region ?_  -- R11 ref.go:97
    refine gl_st (st_buildS0 (e := 5) (m := 1) rfl rfl rfl (by kernel_rfl) (by kernel_rfl) hH ?_)
    clear hH; intro b12 w13 hH
    refine gl_ops 3 [(1, .pointer (some ⟨b1, 0, none⟩)), (4, .slice A7 (((bytesV (i : Int) (t : Int) cf dt).1).length) c8), (6, .int .i64 ((nch (bytesV (i : Int) (t : Int) cf dt).1.length : Nat) : Int)), (7, .slice A vs.length c), (8, .int .i64 ((vs.length : Nat) : Int)), (30, .slice (some ⟨b12, 0, none⟩) 0 0), (31, .slice A7 (((bytesV (i : Int) (t : Int) cf dt).1).length) c8), (33, .int .i64 (IntKind.i64.wrap (((vs.length : Nat) : Int) * 512)))] (by kernel_rfl) ?_
    refine gl_cv 33 (.int .i64 ((vs.length * 512 : Nat) : Int)) (cv_i64 (by omega)) rfl ?_
    refine gl_ops 1 [(1, .pointer (some ⟨b1, 0, none⟩)), (4, .slice A7 (((bytesV (i : Int) (t : Int) cf dt).1).length) c8), (6, .int .i64 ((nch (bytesV (i : Int) (t : Int) cf dt).1.length : Nat) : Int)), (7, .slice A vs.length c), (8, .int .i64 ((vs.length : Nat) : Int)), (30, .slice (some ⟨b12, 0, none⟩) 0 0), (31, .slice A7 (((bytesV (i : Int) (t : Int) cf dt).1).length) c8), (33, .int .i64 ((vs.length * 512 : Nat) : Int)), (34, .slice A7 (((bytesV (i : Int) (t : Int) cf dt).1).length) c8)] (by kernel_rfl) ?_
    refine gl_q rfl rfl rfl (rd_len (e := 5) (by kernel_rfl) rfl) ?_
    refine gl_ops 2 [(1, .pointer (some ⟨b1, 0, none⟩)), (4, .slice A7 (((bytesV (i : Int) (t : Int) cf dt).1).length) c8), (6, .int .i64 ((nch (bytesV (i : Int) (t : Int) cf dt).1.length : Nat) : Int)), (7, .slice A vs.length c), (8, .int .i64 ((vs.length : Nat) : Int)), (30, .slice (some ⟨b12, 0, none⟩) 0 0), (31, .slice A7 (((bytesV (i : Int) (t : Int) cf dt).1).length) c8), (33, .int .i64 ((vs.length * 512 : Nat) : Int)), (35, .int .i64 ((((bytesV (i : Int) (t : Int) cf dt).1).length : Nat) : Int)), (37, .int .i64 (IntKind.i64.wrap (((vs.length : Nat) : Int) + 1)))] (by kernel_rfl) ?_
    refine gl_cv 37 (.int .i64 ((vs.length + 1 : Nat) : Int)) (cv_i64 (by omega)) rfl ?_
    refine gl_ops 1 [(1, .pointer (some ⟨b1, 0, none⟩)), (4, .slice A7 (((bytesV (i : Int) (t : Int) cf dt).1).length) c8), (6, .int .i64 ((nch (bytesV (i : Int) (t : Int) cf dt).1.length : Nat) : Int)), (7, .slice A vs.length c), (8, .int .i64 ((vs.length : Nat) : Int)), (30, .slice (some ⟨b12, 0, none⟩) 0 0), (31, .slice A7 (((bytesV (i : Int) (t : Int) cf dt).1).length) c8), (33, .int .i64 ((vs.length * 512 : Nat) : Int)), (35, .int .i64 ((((bytesV (i : Int) (t : Int) cf dt).1).length : Nat) : Int)), (38, .int .i64 (IntKind.i64.wrap (((vs.length + 1 : Nat) : Int) * 512)))] (by kernel_rfl) ?_
    refine gl_cv 38 (.int .i64 (((vs.length + 1) * 512 : Nat) : Int)) (cv_i64 (by omega)) rfl ?_
    refine gl_ops 1 [(1, .pointer (some ⟨b1, 0, none⟩)), (4, .slice A7 (((bytesV (i : Int) (t : Int) cf dt).1).length) c8), (6, .int .i64 ((nch (bytesV (i : Int) (t : Int) cf dt).1.length : Nat) : Int)), (7, .slice A vs.length c), (8, .int .i64 ((vs.length : Nat) : Int)), (30, .slice (some ⟨b12, 0, none⟩) 0 0), (31, .slice A7 (((bytesV (i : Int) (t : Int) cf dt).1).length) c8), (33, .int .i64 ((vs.length * 512 : Nat) : Int)), (39, .int .i64 (if (((vs.length + 1) * 512 : Nat) : Int) < ((((bytesV (i : Int) (t : Int) cf dt).1).length : Nat) : Int) then (((vs.length + 1) * 512 : Nat) : Int) else ((((bytesV (i : Int) (t : Int) cf dt).1).length : Nat) : Int)))] (by kernel_rfl) ?_
    refine gl_cv 39 (.int .i64 (((min (((bytesV (i : Int) (t : Int) cf dt).1).length) ((vs.length + 1) * 512)) : Nat) : Int)) (cv_minN) rfl ?_
    obtain ⟨A14, hk15, hv16⟩ := hH.row_win 1 rfl (vs.length * 512) (min (((bytesV (i : Int) (t : Int) cf dt).1).length) ((vs.length + 1) * 512)) c8 (by omega) (by omega) (by omega) (by omega)
    refine gl_q rfl rfl rfl (rd_cut (e := 5) (m := 1) (by kernel_rfl) (by kernel_rfl) rfl (.inr ⟨_, _, rfl, rfl⟩) (.inr ⟨_, _, rfl, rfl⟩) hk15) ?_
    have hrb17 : RB w13.cell? (.slice A14 ((min (((bytesV (i : Int) (t : Int) cf dt).1).length) ((vs.length + 1) * 512)) - (vs.length * 512)) (c8 - (vs.length * 512))) (chunkB (bytesV (i : Int) (t : Int) cf dt).1 vs.length) := by show Row _ _ 1 (chunkB (bytesV (i : Int) (t : Int) cf dt).1 vs.length).length _; rw [show (chunkB (bytesV (i : Int) (t : Int) cf dt).1 vs.length).length = (min (((bytesV (i : Int) (t : Int) cf dt).1).length) ((vs.length + 1) * 512)) - (vs.length * 512) from by have := chunk_len (bytesV (i : Int) (t : Int) cf dt).1 vs.length hlt; omega, ← chunk_cells _ _ hlt]; exact (Win.reads hH 1 rfl hv16 (by omega) (by omega) (by omega))
    refine gl_st (st_appH (e := 5) (zv := .int .u8 0) (m := 1) (bytes := 1) 4 rfl rfl rfl (by kernel_rfl) (by kernel_rfl) rfl (by decide) hH rfl rfl rfl hrb17.row (bv_one _) (by unfold maxLen; omega) (by omega) ?_)
    clear hH; intro v18 w19 hH
    replace hH := hH.row_eq 4 (l' := (chunkB (bytesV (i : Int) (t : Int) cf dt).1 vs.length).length) (xs' := bv (chunkB (bytesV (i : Int) (t : Int) cf dt).1 vs.length)) rfl (Nat.zero_add _) (List.nil_append _)
    obtain ⟨A20, c21, rfl, hl22, hm23⟩ := hH.row_form 4 rfl
    refine gl_ops 1 [(1, .pointer (some ⟨b1, 0, none⟩)), (4, .slice A7 (((bytesV (i : Int) (t : Int) cf dt).1).length) c8), (6, .int .i64 ((nch (bytesV (i : Int) (t : Int) cf dt).1.length : Nat) : Int)), (7, .slice A vs.length c), (8, .int .i64 ((vs.length : Nat) : Int)), (9, .slice A20 ((chunkB (bytesV (i : Int) (t : Int) cf dt).1 vs.length).length) c21)] (by kernel_rfl) ?_
    refine gl_done rfl ?_
    refine sw_next ?_
    refine sw_region ?_  -- R12 ref.go:98
    refine gl_ops 2 [(1, .pointer (some ⟨b1, 0, none⟩)), (4, .slice A7 (((bytesV (i : Int) (t : Int) cf dt).1).length) c8), (6, .int .i64 ((nch (bytesV (i : Int) (t : Int) cf dt).1.length : Nat) : Int)), (8, .int .i64 ((vs.length : Nat) : Int)), (9, .slice A20 ((chunkB (bytesV (i : Int) (t : Int) cf dt).1 vs.length).length) c21), (42, .slice A vs.length c), (43, .pointer (some ⟨b1, 0, none⟩))] (by kernel_rfl) ?_
    refine gl_q rfl rfl rfl (rd_loadK 0 (by kernel_rfl) hH rfl rfl rfl) ?_
    refine gl_ops 1 [(1, .pointer (some ⟨b1, 0, none⟩)), (4, .slice A7 (((bytesV (i : Int) (t : Int) cf dt).1).length) c8), (6, .int .i64 ((nch (bytesV (i : Int) (t : Int) cf dt).1.length : Nat) : Int)), (8, .int .i64 ((vs.length : Nat) : Int)), (9, .slice A20 ((chunkB (bytesV (i : Int) (t : Int) cf dt).1 vs.length).length) c21), (42, .slice A vs.length c), (44, .int .i64 i), (45, .pointer (some ⟨b1, 1, none⟩))] (by kernel_rfl) ?_
    refine gl_q rfl rfl rfl (rd_loadK 0 (by kernel_rfl) hH rfl rfl rfl) ?_
    refine gl_ops 4 [(1, .pointer (some ⟨b1, 0, none⟩)), (4, .slice A7 (((bytesV (i : Int) (t : Int) cf dt).1).length) c8), (6, .int .i64 ((nch (bytesV (i : Int) (t : Int) cf dt).1.length : Nat) : Int)), (8, .int .i64 ((vs.length : Nat) : Int)), (42, .slice A vs.length c), (50, .agg #[.int .i64 i, .int .i64 t, .int .i64 ((vs.length : Nat) : Int), .int .i64 ((nch (bytesV (i : Int) (t : Int) cf dt).1.length : Nat) : Int), .slice A20 ((chunkB (bytesV (i : Int) (t : Int) cf dt).1 vs.length).length) c21])] (by kernel_rfl) ?_
    refine gl_st (st_buildS (e := 48) (zv := .agg #[.int .i64 0, .int .i64 0, .int .i64 0, .int .i64 0, .slice none 0 0]) (m := 5) (bytes := 56) rfl rfl rfl (by kernel_rfl) (by kernel_rfl) rfl (cs := [.int .i64 i, .int .i64 t, .int .i64 ((vs.length : Nat) : Int), .int .i64 ((nch (bytesV (i : Int) (t : Int) cf dt).1.length : Nat) : Int), .slice A20 ((chunkB (bytesV (i : Int) (t : Int) cf dt).1 vs.length).length) c21]) (by kernel_rfl) rfl hH ?_)
    clear hH; intro b24 w25 hH
    refine gl_st (st_appH (e := 48) (zv := .agg #[.int .i64 0, .int .i64 0, .int .i64 0, .int .i64 0, .slice none 0 0]) (m := 5) (bytes := 56) 2 rfl rfl rfl (by kernel_rfl) (by kernel_rfl) rfl (by decide) hH rfl rfl rfl (hH.row_reads 5 rfl) (by simp [Value.oneCell']) (by unfold maxLen; omega) (by omega) ?_)
    clear hH; intro v26 w27 hH
    replace hH := hH.row_eq 2 (l' := (vs ++ [(Value.slice A20 ((chunkB (bytesV (i : Int) (t : Int) cf dt).1 vs.length).length) c21)]).length) (xs' := partsC i t (nch (bytesV (i : Int) (t : Int) cf dt).1.length) (vs ++ [(Value.slice A20 ((chunkB (bytesV (i : Int) (t : Int) cf dt).1 vs.length).length) c21)])) rfl (by rw [List.length_append]; rfl) ((partsC_snoc _ _ _ _ _).symm)
    obtain ⟨A28, c29, rfl, hl30, hm31⟩ := hH.row_form 2 rfl
    refine gl_ops 1 [(1, .pointer (some ⟨b1, 0, none⟩)), (4, .slice A7 (((bytesV (i : Int) (t : Int) cf dt).1).length) c8), (6, .int .i64 ((nch (bytesV (i : Int) (t : Int) cf dt).1.length : Nat) : Int)), (7, .slice A28 ((vs ++ [(Value.slice A20 ((chunkB (bytesV (i : Int) (t : Int) cf dt).1 vs.length).length) c21)]).length) c29), (8, .int .i64 ((vs.length : Nat) : Int))] (by kernel_rfl) ?_
    refine gl_done rfl ?_
    refine bkN ?_
    refine sw_next ?_
    replace hH : Hp w w27 (w.cell?) [] [.blk b1 24 [.int .i64 i, .int .i64 t, .slice Ac cf.length cc, .slice Ad dt.length cd], .row (.slice A7 (((bytesV (i : Int) (t : Int) cf dt).1).length) c8) 5 1 (((bytesV (i : Int) (t : Int) cf dt).1).length) (bv ((bytesV (i : Int) (t : Int) cf dt).1)), .row (.slice A28 ((vs ++ [(Value.slice A20 ((chunkB (bytesV (i : Int) (t : Int) cf dt).1 vs.length).length) c21)]).length) c29) 48 5 ((vs ++ [(Value.slice A20 ((chunkB (bytesV (i : Int) (t : Int) cf dt).1 vs.length).length) c21)]).length) (partsC i t (nch (bytesV (i : Int) (t : Int) cf dt).1.length) (vs ++ [(Value.slice A20 ((chunkB (bytesV (i : Int) (t : Int) cf dt).1 vs.length).length) c21)])), .grp (partOwn 5 (bytesV (i : Int) (t : Int) cf dt).1 vs), .row (.slice A20 ((chunkB (bytesV (i : Int) (t : Int) cf dt).1 vs.length).length) c21) 5 1 ((chunkB (bytesV (i : Int) (t : Int) cf dt).1 vs.length).length) (bv (chunkB (bytesV (i : Int) (t : Int) cf dt).1 vs.length)), .row (.slice (some ⟨b24, 0, none⟩) 1 1) 48 5 1 [.int .i64 i, .int .i64 t, .int .i64 ((vs.length : Nat) : Int), .int .i64 ((nch (bytesV (i : Int) (t : Int) cf dt).1.length : Nat) : Int), .slice A20 ((chunkB (bytesV (i : Int) (t : Int) cf dt).1 vs.length).length) c21]] := hH
    replace hH := hH.pick [3, 4, 0, 1, 2, 5] (by kernel_rfl) (os' := [.grp (partOwn 5 (bytesV (i : Int) (t : Int) cf dt).1 vs), .row (.slice A20 ((chunkB (bytesV (i : Int) (t : Int) cf dt).1 vs.length).length) c21) 5 1 ((chunkB (bytesV (i : Int) (t : Int) cf dt).1 vs.length).length) (bv (chunkB (bytesV (i : Int) (t : Int) cf dt).1 vs.length)), .blk b1 24 [.int .i64 i, .int .i64 t, .slice Ac cf.length cc, .slice Ad dt.length cd], .row (.slice A7 (((bytesV (i : Int) (t : Int) cf dt).1).length) c8) 5 1 (((bytesV (i : Int) (t : Int) cf dt).1).length) (bv ((bytesV (i : Int) (t : Int) cf dt).1)), .row (.slice A28 ((vs ++ [(Value.slice A20 ((chunkB (bytesV (i : Int) (t : Int) cf dt).1 vs.length).length) c21)]).length) c29) 48 5 ((vs ++ [(Value.slice A20 ((chunkB (bytesV (i : Int) (t : Int) cf dt).1 vs.length).length) c21)]).length) (partsC i t (nch (bytesV (i : Int) (t : Int) cf dt).1.length) (vs ++ [(Value.slice A20 ((chunkB (bytesV (i : Int) (t : Int) cf dt).1 vs.length).length) c21)])), .row (.slice (some ⟨b24, 0, none⟩) 1 1) 48 5 1 [.int .i64 i, .int .i64 t, .int .i64 ((vs.length : Nat) : Int), .int .i64 ((nch (bytesV (i : Int) (t : Int) cf dt).1.length : Nat) : Int), .slice A20 ((chunkB (bytesV (i : Int) (t : Int) cf dt).1 vs.length).length) c21]]) (by kernel_rfl)
    replace hH := hH.merge
    replace hH := hH.cast (os' := [.grp (partOwn 5 (bytesV (i : Int) (t : Int) cf dt).1 (vs ++ [(Value.slice A20 ((chunkB (bytesV (i : Int) (t : Int) cf dt).1 vs.length).length) c21)])), .blk b1 24 [.int .i64 i, .int .i64 t, .slice Ac cf.length cc, .slice Ad dt.length cd], .row (.slice A7 (((bytesV (i : Int) (t : Int) cf dt).1).length) c8) 5 1 (((bytesV (i : Int) (t : Int) cf dt).1).length) (bv ((bytesV (i : Int) (t : Int) cf dt).1)), .row (.slice A28 ((vs ++ [(Value.slice A20 ((chunkB (bytesV (i : Int) (t : Int) cf dt).1 vs.length).length) c21)]).length) c29) 48 5 ((vs ++ [(Value.slice A20 ((chunkB (bytesV (i : Int) (t : Int) cf dt).1 vs.length).length) c21)]).length) (partsC i t (nch (bytesV (i : Int) (t : Int) cf dt).1.length) (vs ++ [(Value.slice A20 ((chunkB (bytesV (i : Int) (t : Int) cf dt).1 vs.length).length) c21)])), .row (.slice (some ⟨b24, 0, none⟩) 1 1) 48 5 1 [.int .i64 i, .int .i64 t, .int .i64 ((vs.length : Nat) : Int), .int .i64 ((nch (bytesV (i : Int) (t : Int) cf dt).1.length : Nat) : Int), .slice A20 ((chunkB (bytesV (i : Int) (t : Int) cf dt).1 vs.length).length) c21]]) (by rw [partOwn_snoc])
    refine sw_region ?_  -- R10 ref.go:96
    refine gl_ops 2 [(1, .pointer (some ⟨b1, 0, none⟩)), (4, .slice A7 (((bytesV (i : Int) (t : Int) cf dt).1).length) c8), (6, .int .i64 ((nch (bytesV (i : Int) (t : Int) cf dt).1.length : Nat) : Int)), (7, .slice A28 ((vs ++ [(Value.slice A20 ((chunkB (bytesV (i : Int) (t : Int) cf dt).1 vs.length).length) c21)]).length) c29), (29, .int .i64 (IntKind.i64.wrap (((vs.length : Nat) : Int) + 1)))] (by kernel_rfl) ?_
    refine gl_cv 29 (.int .i64 (((vs ++ [(Value.slice A20 ((chunkB (bytesV (i : Int) (t : Int) cf dt).1 vs.length).length) c21)]).length : Nat) : Int)) (by rw [List.length_append]; exact cv_i64 (by simp only [List.length_cons, List.length_nil]; omega)) rfl ?_
    refine gl_ops 1 [(1, .pointer (some ⟨b1, 0, none⟩)), (4, .slice A7 (((bytesV (i : Int) (t : Int) cf dt).1).length) c8), (6, .int .i64 ((nch (bytesV (i : Int) (t : Int) cf dt).1.length : Nat) : Int)), (7, .slice A28 ((vs ++ [(Value.slice A20 ((chunkB (bytesV (i : Int) (t : Int) cf dt).1 vs.length).length) c21)]).length) c29), (8, .int .i64 (((vs ++ [(Value.slice A20 ((chunkB (bytesV (i : Int) (t : Int) cf dt).1 vs.length).length) c21)]).length : Nat) : Int))] (by kernel_rfl) ?_
    refine gl_done rfl ?_
    refine rnd_end (g := (vs, A, c)) (vs ++ [(Value.slice A20 ((chunkB (bytesV (i : Int) (t : Int) cf dt).1 vs.length).length) c21)], A28, c29) (by kernel_rfl) ?_ ?_
    replace hH : Hp w w27 (w.cell?) [] [.grp (partOwn 5 (bytesV (i : Int) (t : Int) cf dt).1 (vs ++ [(Value.slice A20 ((chunkB (bytesV (i : Int) (t : Int) cf dt).1 vs.length).length) c21)])), .blk b1 24 [.int .i64 i, .int .i64 t, .slice Ac cf.length cc, .slice Ad dt.length cd], .row (.slice A7 (((bytesV (i : Int) (t : Int) cf dt).1).length) c8) 5 1 (((bytesV (i : Int) (t : Int) cf dt).1).length) (bv ((bytesV (i : Int) (t : Int) cf dt).1)), .row (.slice A28 ((vs ++ [(Value.slice A20 ((chunkB (bytesV (i : Int) (t : Int) cf dt).1 vs.length).length) c21)]).length) c29) 48 5 ((vs ++ [(Value.slice A20 ((chunkB (bytesV (i : Int) (t : Int) cf dt).1 vs.length).length) c21)]).length) (partsC i t (nch (bytesV (i : Int) (t : Int) cf dt).1.length) (vs ++ [(Value.slice A20 ((chunkB (bytesV (i : Int) (t : Int) cf dt).1 vs.length).length) c21)])), .row (.slice (some ⟨b24, 0, none⟩) 1 1) 48 5 1 [.int .i64 i, .int .i64 t, .int .i64 ((vs.length : Nat) : Int), .int .i64 ((nch (bytesV (i : Int) (t : Int) cf dt).1.length : Nat) : Int), .slice A20 ((chunkB (bytesV (i : Int) (t : Int) cf dt).1 vs.length).length) c21]] := hH
    · exact ⟨by rw [List.length_append]; simp only [List.length_cons, List.length_nil]; omega, ((hH.pick [1, 2, 3, 0, 4] (by kernel_rfl) (os' := [.blk b1 24 [.int .i64 i, .int .i64 t, .slice Ac cf.length cc, .slice Ad dt.length cd], .row (.slice A7 (((bytesV (i : Int) (t : Int) cf dt).1).length) c8) 5 1 (((bytesV (i : Int) (t : Int) cf dt).1).length) (bv ((bytesV (i : Int) (t : Int) cf dt).1)), .row (.slice A28 ((vs ++ [(Value.slice A20 ((chunkB (bytesV (i : Int) (t : Int) cf dt).1 vs.length).length) c21)]).length) c29) 48 5 ((vs ++ [(Value.slice A20 ((chunkB (bytesV (i : Int) (t : Int) cf dt).1 vs.length).length) c21)]).length) (partsC i t (nch (bytesV (i : Int) (t : Int) cf dt).1.length) (vs ++ [(Value.slice A20 ((chunkB (bytesV (i : Int) (t : Int) cf dt).1 vs.length).length) c21)])), .grp (partOwn 5 (bytesV (i : Int) (t : Int) cf dt).1 (vs ++ [(Value.slice A20 ((chunkB (bytesV (i : Int) (t : Int) cf dt).1 vs.length).length) c21)])), .row (.slice (some ⟨b24, 0, none⟩) 1 1) 48 5 1 [.int .i64 i, .int .i64 t, .int .i64 ((vs.length : Nat) : Int), .int .i64 ((nch (bytesV (i : Int) (t : Int) cf dt).1.length : Nat) : Int), .slice A20 ((chunkB (bytesV (i : Int) (t : Int) cf dt).1 vs.length).length) c21]]) (by kernel_rfl)).sublist (.cons_cons _ (.cons_cons _ (.cons_cons _ (.cons_cons _ (List.nil_sublist _))))))⟩
    · show nch (bytesV (i : Int) (t : Int) cf dt).1.length - (vs ++ [_]).length < nch (bytesV (i : Int) (t : Int) cf dt).1.length - vs.length; rw [List.length_append]; simp only [List.length_cons, List.length_nil]; omega
  try simp only [decide_eq_false_iff_not, beq_eq_false_iff_ne, bne_eq_false_iff_eq, ne_eq, Decidable.not_not, Int.not_lt, Int.not_le, Bool.not_eq_false', beq_iff_eq, bne_iff_ne, decide_eq_true_eq] at hc3
  refine sw_exit ?_
  refine thX ?_
  refine thX ?_
  refine bkH ?_
  refine sw_next ?_
  refine sw_seq ?_
  refine sw_region ?_  -- R13 ref.go:100
  refine gl_ops 3 [(2, .slice A vs.length c), (3, .int .i64 0)] (by kernel_rfl) ?_
  refine gl_done rfl ?_
  refine sw_next ?_
  refine sw_ret ?_
  refine ret2 rfl rfl rfl  ?_
  have he : vs.length = nch (bytesV (i : Int) (t : Int) cf dt).1.length := by omega
  have hsp := split_ok (i := i) (t := t) (cf := cf) (dt := dt) (by omega) (by omega)
  replace hH := hH.row_eq 2 (l' := vs.length) (xs' := partsC i t vs.length vs) rfl rfl (by rw [← he])
  exact ⟨_, vs, by rw [hsp.1] <;> rfl, by rw [hsp.2]; exact he, ((hH.sublist (.cons _ (.cons _ (.cons_cons _ (.cons_cons _ (List.nil_sublist _)))))).cast (by rw [hsp.2] <;> rfl)).fresh⟩
theorem RSameParts_ct (i t : Int) (n : Nat) (b : List UInt8) (va vb : Value) (vs us : List Value) (w : World) (kA : Row w.cell? va 5 n (partsC i t n vs)) (kB : Row w.cell? vb 5 n (partsC i t n us)) (h1 : ∀ k : Nat, k < n → RB w.cell? (vs.getD k undef) (chunkB b k)) (h2 : ∀ k : Nat, k < n → RB w.cell? (us.getD k undef) (chunkB b k)) (hv : vs.length = n) (hu : us.length = n) (hn : n ≤ 1024) :
    Fun Tryd.prog 21 [va, vb] w fun v w' => v = .bool true ∧ Fresh w w' [] := by
  obtain ⟨Aa, ca, rfl, kA1, kA2⟩ := kA.form
  obtain ⟨Ab, cb, rfl, kB1, kB2⟩ := kB.form
  refine fun_of_sw Tryd.func21 rfl 82 rfl rfl ?_
  have hH := Hp.start w
  refine sw_seq ?_
  refine sw_region ?_  -- R0 ref.go:104
  refine gl_ops 1 [(0, .slice Aa n ca), (1, .slice Ab n cb)] (by kernel_rfl) ?_
  refine gl_done rfl ?_
  refine sw_next ?_
  refine sw_seq ?_
  refine sw_seq ?_
  refine sw_region ?_  -- R1 ref.go:105
  refine gl_ops 1 [(0, .slice Aa n ca), (1, .slice Ab n cb), (6, .slice Aa n ca)] (by kernel_rfl) ?_
  refine gl_q rfl rfl rfl (rd_len (e := 48) (by kernel_rfl) rfl) ?_
  refine gl_ops 1 [(0, .slice Aa n ca), (1, .slice Ab n cb), (7, .int .i64 ((n : Nat) : Int)), (8, .slice Ab n cb)] (by kernel_rfl) ?_
  refine gl_q rfl rfl rfl (rd_len (e := 48) (by kernel_rfl) rfl) ?_
  refine gl_ops 1 [(0, .slice Aa n ca), (1, .slice Ab n cb), (10, .bool (((n : Nat) : Int) != ((n : Nat) : Int)))] (by kernel_rfl) ?_
  refine gl_cv 10 (.bool false) (by simp) rfl ?_
  refine gl_done rfl ?_
  refine sw_next ?_
  refine sw_false rfl rfl ?_
  refine sw_skip ?_
  refine sw_next ?_
  refine sw_seq ?_
  refine sw_seq ?_
  refine sw_region ?_  -- R3 ref.go:108
  refine gl_ops 1 [(0, .slice Aa n ca), (1, .slice Ab n cb), (5, .int .i64 0)] (by kernel_rfl) ?_
  refine gl_done rfl ?_
  refine sw_next ?_
  refine sw_block ?_
  refine sw_loop (γ := Nat) (fun j => [(0, .slice Aa n ca), (1, .slice Ab n cb), (5, .int .i64 ((j : Nat) : Int))]) (fun j w_ => (j ≤ n) ∧ Hp w w_ (w.cell?) [] []) (fun j => n - j) (0) (Sub.of_eq (by kernel_rfl)) ?_ ?_
  · exact ⟨by omega, hH⟩
  clear hH
  rintro j w1 ⟨hj, hH⟩
  refine sw_keep [(0, .slice Aa n ca), (1, .slice Ab n cb), (5, .int .i64 ((j : Nat) : Int))] (by kernel_rfl) ?_
  refine sw_seq ?_
  refine sw_seq ?_
  refine sw_region ?_  -- R4 ref.go:108
  refine gl_ops 2 [(0, .slice Aa n ca), (1, .slice Ab n cb), (5, .int .i64 ((j : Nat) : Int)), (11, .int .i64 ((j : Nat) : Int)), (12, .slice Aa n ca)] (by kernel_rfl) ?_
  refine gl_q rfl rfl rfl (rd_len (e := 48) (by kernel_rfl) rfl) ?_
  refine gl_ops 1 [(0, .slice Aa n ca), (1, .slice Ab n cb), (5, .int .i64 ((j : Nat) : Int)), (14, .bool (decide (((j : Nat) : Int) < ((n : Nat) : Int))))] (by kernel_rfl) ?_
  refine gl_done rfl ?_
  refine sw_next ?_
  refine sw_cond rfl rfl (fun hc2 => ?_) (fun hc2 => ?_)
  ·
    try simp only [decide_eq_true_eq, beq_iff_eq, bne_iff_ne, ne_eq, Bool.not_eq_true', beq_eq_false_iff_ne, bne_eq_false_iff_eq, decide_eq_false_iff_not, Int.not_lt, Int.not_le] at hc2
    refine sw_skip ?_
    refine sw_next ?_
    refine sw_seq ?_
    refine sw_block ?_
    refine sw_seq ?_
    refine sw_draw (by kernel_rfl) (fun w_ => Hp w w_ (w.cell?) [] []) ?_  -- R6 ref.go:109
    replace hH := hH.drew
    generalize { w1 with drawn := w1.drawn + 1 } = w2 at hH ⊢
    refine gd_pure 0 rfl (by kernel_rfl) (PQ.th (PQ.bk (PQ.th (PQ.th (PQ.bk (PQ.th PQ.body)))))) (hH.sublist (List.nil_sublist _)) rfl rfl (.slice Aa n ca) (by kernel_rfl) ?_
    refine gd_pure 1 rfl (by kernel_rfl) (PQ.th (PQ.bk (PQ.th (PQ.th (PQ.bk (PQ.th PQ.body)))))) (hH.sublist (List.nil_sublist _)) rfl rfl (.int .i64 ((j : Nat) : Int)) (by kernel_rfl) ?_
    obtain ⟨p3, hi5, hp4⟩ := kA.idx j (by omega) (by decide)
    refine gd_q 2 rfl (by kernel_rfl) (PQ.th (PQ.bk (PQ.th (PQ.th (PQ.bk (PQ.th PQ.body)))))) (hH.sublist (List.nil_sublist _)) rfl rfl (fun w_ hS => (rd_idx (e := 48) (m := 5) (by kernel_rfl) (by kernel_rfl) rfl rfl hi5)) ?_
    refine gd_keep [(0, .slice Aa n ca), (1, .slice Ab n cb), (5, .int .i64 ((j : Nat) : Int)), (19, .pointer (some p3))] (by kernel_rfl) ?_
    refine gd_pure 3 rfl (by kernel_rfl) (PQ.th (PQ.bk (PQ.th (PQ.th (PQ.bk (PQ.th PQ.body)))))) (hH.sublist (List.nil_sublist _)) rfl rfl (.pointer (some p3)) (by kernel_rfl) ?_
    refine gd_q 4 rfl (by kernel_rfl) (PQ.th (PQ.bk (PQ.th (PQ.th (PQ.bk (PQ.th PQ.body)))))) (hH.sublist (List.nil_sublist _)) rfl rfl (fun w_ hS => (rd_load (by kernel_rfl) rfl (hS.zin _ _ (hp4 0 _ (by decide) (partsC_get i t n vs j 0 (by omega) (by decide)))))) ?_
    refine gd_pure 5 rfl (by kernel_rfl) (PQ.th (PQ.bk (PQ.th (PQ.th (PQ.bk (PQ.th PQ.body)))))) (hH.sublist (List.nil_sublist _)) rfl rfl (.slice Ab n cb) (by kernel_rfl) ?_
    refine gd_keep [(0, .slice Aa n ca), (1, .slice Ab n cb), (5, .int .i64 ((j : Nat) : Int)), (21, .int .i64 i), (22, .slice Ab n cb)] (by kernel_rfl) ?_
    refine gd_pure 6 rfl (by kernel_rfl) (PQ.th (PQ.bk (PQ.th (PQ.th (PQ.bk (PQ.th PQ.body)))))) (hH.sublist (List.nil_sublist _)) rfl rfl (.int .i64 ((j : Nat) : Int)) (by kernel_rfl) ?_
    obtain ⟨p6, hi8, hp7⟩ := kB.idx j (by omega) (by decide)
    refine gd_q 7 rfl (by kernel_rfl) (PQ.th (PQ.bk (PQ.th (PQ.th (PQ.bk (PQ.th PQ.body)))))) (hH.sublist (List.nil_sublist _)) rfl rfl (fun w_ hS => (rd_idx (e := 48) (m := 5) (by kernel_rfl) (by kernel_rfl) rfl rfl hi8)) ?_
    refine gd_pure 8 rfl (by kernel_rfl) (PQ.th (PQ.bk (PQ.th (PQ.th (PQ.bk (PQ.th PQ.body)))))) (hH.sublist (List.nil_sublist _)) rfl rfl (.pointer (some p6)) (by kernel_rfl) ?_
    refine gd_keep [(0, .slice Aa n ca), (1, .slice Ab n cb), (5, .int .i64 ((j : Nat) : Int)), (21, .int .i64 i), (25, .pointer (some p6))] (by kernel_rfl) ?_
    refine gd_q 9 rfl (by kernel_rfl) (PQ.th (PQ.bk (PQ.th (PQ.th (PQ.bk (PQ.th PQ.body)))))) (hH.sublist (List.nil_sublist _)) rfl rfl (fun w_ hS => (rd_load (by kernel_rfl) rfl (hS.zin _ _ (hp7 0 _ (by decide) (partsC_get i t n us j 0 (by omega) (by decide)))))) ?_
    refine gd_pure 10 rfl (by kernel_rfl) (PQ.th (PQ.bk (PQ.th (PQ.th (PQ.bk (PQ.th PQ.body)))))) (hH.sublist (List.nil_sublist _)) rfl rfl (.bool ((i : Int) != (i : Int))) (by kernel_rfl) ?_
    refine gd_cv 27 (.bool false) (by simp) rfl ?_
    refine gd_pure 11 rfl (by kernel_rfl) (PQ.th (PQ.bk (PQ.th (PQ.th (PQ.bk (PQ.th PQ.body)))))) (hH.sublist (List.nil_sublist _)) rfl rfl (.bool false) (by kernel_rfl) ?_
    refine gd_keep [(0, .slice Aa n ca), (1, .slice Ab n cb), (5, .int .i64 ((j : Nat) : Int)), (28, .bool false)] (by kernel_rfl) ?_
    refine gd_pure 12 rfl (by kernel_rfl) (PQ.th (PQ.bk (PQ.th (PQ.th (PQ.bk (PQ.th PQ.body)))))) (hH.sublist (List.nil_sublist _)) rfl rfl (.slice Aa n ca) (by kernel_rfl) ?_
    refine gd_pure 13 rfl (by kernel_rfl) (PQ.th (PQ.bk (PQ.th (PQ.th (PQ.bk (PQ.th PQ.body)))))) (hH.sublist (List.nil_sublist _)) rfl rfl (.int .i64 ((j : Nat) : Int)) (by kernel_rfl) ?_
    obtain ⟨p9, hi11, hp10⟩ := kA.idx j (by omega) (by decide)
    refine gd_q 14 rfl (by kernel_rfl) (PQ.th (PQ.bk (PQ.th (PQ.th (PQ.bk (PQ.th PQ.body)))))) (hH.sublist (List.nil_sublist _)) rfl rfl (fun w_ hS => (rd_idx (e := 48) (m := 5) (by kernel_rfl) (by kernel_rfl) rfl rfl hi11)) ?_
    refine gd_keep [(0, .slice Aa n ca), (1, .slice Ab n cb), (5, .int .i64 ((j : Nat) : Int)), (28, .bool false), (31, .pointer (some p9))] (by kernel_rfl) ?_
    refine gd_pure 15 rfl (by kernel_rfl) (PQ.th (PQ.bk (PQ.th (PQ.th (PQ.bk (PQ.th PQ.body)))))) (hH.sublist (List.nil_sublist _)) rfl rfl (.pointer (some (p9.add 1))) (by kernel_rfl) ?_
    refine gd_q 16 rfl (by kernel_rfl) (PQ.th (PQ.bk (PQ.th (PQ.th (PQ.bk (PQ.th PQ.body)))))) (hH.sublist (List.nil_sublist _)) rfl rfl (fun w_ hS => (rd_load (by kernel_rfl) rfl (hS.zin _ _ (hp10 1 _ (by decide) (partsC_get i t n vs j 1 (by omega) (by decide)))))) ?_
    refine gd_pure 17 rfl (by kernel_rfl) (PQ.th (PQ.bk (PQ.th (PQ.th (PQ.bk (PQ.th PQ.body)))))) (hH.sublist (List.nil_sublist _)) rfl rfl (.slice Ab n cb) (by kernel_rfl) ?_
    refine gd_keep [(0, .slice Aa n ca), (1, .slice Ab n cb), (5, .int .i64 ((j : Nat) : Int)), (28, .bool false), (33, .int .i64 t), (34, .slice Ab n cb)] (by kernel_rfl) ?_
    refine gd_pure 18 rfl (by kernel_rfl) (PQ.th (PQ.bk (PQ.th (PQ.th (PQ.bk (PQ.th PQ.body)))))) (hH.sublist (List.nil_sublist _)) rfl rfl (.int .i64 ((j : Nat) : Int)) (by kernel_rfl) ?_
    obtain ⟨p12, hi14, hp13⟩ := kB.idx j (by omega) (by decide)
    refine gd_q 19 rfl (by kernel_rfl) (PQ.th (PQ.bk (PQ.th (PQ.th (PQ.bk (PQ.th PQ.body)))))) (hH.sublist (List.nil_sublist _)) rfl rfl (fun w_ hS => (rd_idx (e := 48) (m := 5) (by kernel_rfl) (by kernel_rfl) rfl rfl hi14)) ?_
    refine gd_pure 20 rfl (by kernel_rfl) (PQ.th (PQ.bk (PQ.th (PQ.th (PQ.bk (PQ.th PQ.body)))))) (hH.sublist (List.nil_sublist _)) rfl rfl (.pointer (some (p12.add 1))) (by kernel_rfl) ?_
    refine gd_keep [(0, .slice Aa n ca), (1, .slice Ab n cb), (5, .int .i64 ((j : Nat) : Int)), (28, .bool false), (33, .int .i64 t), (37, .pointer (some (p12.add 1)))] (by kernel_rfl) ?_
    refine gd_q 21 rfl (by kernel_rfl) (PQ.th (PQ.bk (PQ.th (PQ.th (PQ.bk (PQ.th PQ.body)))))) (hH.sublist (List.nil_sublist _)) rfl rfl (fun w_ hS => (rd_load (by kernel_rfl) rfl (hS.zin _ _ (hp13 1 _ (by decide) (partsC_get i t n us j 1 (by omega) (by decide)))))) ?_
    refine gd_pure 22 rfl (by kernel_rfl) (PQ.th (PQ.bk (PQ.th (PQ.th (PQ.bk (PQ.th PQ.body)))))) (hH.sublist (List.nil_sublist _)) rfl rfl (.bool ((t : Int) != (t : Int))) (by kernel_rfl) ?_
    refine gd_cv 39 (.bool false) (by simp) rfl ?_
    refine gd_pure 23 rfl (by kernel_rfl) (PQ.th (PQ.bk (PQ.th (PQ.th (PQ.bk (PQ.th PQ.body)))))) (hH.sublist (List.nil_sublist _)) rfl rfl (.bool false) (by kernel_rfl) ?_
    refine gd_keep [(0, .slice Aa n ca), (1, .slice Ab n cb), (5, .int .i64 ((j : Nat) : Int)), (40, .bool false)] (by kernel_rfl) ?_
    refine gd_pure 24 rfl (by kernel_rfl) (PQ.th (PQ.bk (PQ.th (PQ.th (PQ.bk (PQ.th PQ.body)))))) (hH.sublist (List.nil_sublist _)) rfl rfl (.bool false) (by kernel_rfl) ?_
    refine gd_pure 25 rfl (by kernel_rfl) (PQ.th (PQ.bk (PQ.th (PQ.th (PQ.bk (PQ.th PQ.body)))))) (hH.sublist (List.nil_sublist _)) rfl rfl (.slice Aa n ca) (by kernel_rfl) ?_
    refine gd_pure 26 rfl (by kernel_rfl) (PQ.th (PQ.bk (PQ.th (PQ.th (PQ.bk (PQ.th PQ.body)))))) (hH.sublist (List.nil_sublist _)) rfl rfl (.int .i64 ((j : Nat) : Int)) (by kernel_rfl) ?_
    refine gd_keep [(0, .slice Aa n ca), (1, .slice Ab n cb), (5, .int .i64 ((j : Nat) : Int)), (41, .bool false), (42, .slice Aa n ca), (43, .int .i64 ((j : Nat) : Int))] (by kernel_rfl) ?_
    obtain ⟨p15, hi17, hp16⟩ := kA.idx j (by omega) (by decide)
    refine gd_q 27 rfl (by kernel_rfl) (PQ.th (PQ.bk (PQ.th (PQ.th (PQ.bk (PQ.th PQ.body)))))) (hH.sublist (List.nil_sublist _)) rfl rfl (fun w_ hS => (rd_idx (e := 48) (m := 5) (by kernel_rfl) (by kernel_rfl) rfl rfl hi17)) ?_
    refine gd_pure 28 rfl (by kernel_rfl) (PQ.th (PQ.bk (PQ.th (PQ.th (PQ.bk (PQ.th PQ.body)))))) (hH.sublist (List.nil_sublist _)) rfl rfl (.pointer (some (p15.add 2))) (by kernel_rfl) ?_
    refine gd_q 29 rfl (by kernel_rfl) (PQ.th (PQ.bk (PQ.th (PQ.th (PQ.bk (PQ.th PQ.body)))))) (hH.sublist (List.nil_sublist _)) rfl rfl (fun w_ hS => (rd_load (by kernel_rfl) rfl (hS.zin _ _ (hp16 2 _ (by decide) (partsC_get i t n vs j 2 (by omega) (by decide)))))) ?_
    refine gd_keep [(0, .slice Aa n ca), (1, .slice Ab n cb), (5, .int .i64 ((j : Nat) : Int)), (41, .bool false), (46, .int .i64 ((j : Nat) : Int))] (by kernel_rfl) ?_
    refine gd_pure 30 rfl (by kernel_rfl) (PQ.th (PQ.bk (PQ.th (PQ.th (PQ.bk (PQ.th PQ.body)))))) (hH.sublist (List.nil_sublist _)) rfl rfl (.slice Ab n cb) (by kernel_rfl) ?_
    refine gd_pure 31 rfl (by kernel_rfl) (PQ.th (PQ.bk (PQ.th (PQ.th (PQ.bk (PQ.th PQ.body)))))) (hH.sublist (List.nil_sublist _)) rfl rfl (.int .i64 ((j : Nat) : Int)) (by kernel_rfl) ?_
    obtain ⟨p18, hi20, hp19⟩ := kB.idx j (by omega) (by decide)
    refine gd_q 32 rfl (by kernel_rfl) (PQ.th (PQ.bk (PQ.th (PQ.th (PQ.bk (PQ.th PQ.body)))))) (hH.sublist (List.nil_sublist _)) rfl rfl (fun w_ hS => (rd_idx (e := 48) (m := 5) (by kernel_rfl) (by kernel_rfl) rfl rfl hi20)) ?_
    refine gd_keep [(0, .slice Aa n ca), (1, .slice Ab n cb), (5, .int .i64 ((j : Nat) : Int)), (41, .bool false), (46, .int .i64 ((j : Nat) : Int)), (49, .pointer (some p18))] (by kernel_rfl) ?_
    refine gd_pure 33 rfl (by kernel_rfl) (PQ.th (PQ.bk (PQ.th (PQ.th (PQ.bk (PQ.th PQ.body)))))) (hH.sublist (List.nil_sublist _)) rfl rfl (.pointer (some (p18.add 2))) (by kernel_rfl) ?_
    refine gd_q 34 rfl (by kernel_rfl) (PQ.th (PQ.bk (PQ.th (PQ.th (PQ.bk (PQ.th PQ.body)))))) (hH.sublist (List.nil_sublist _)) rfl rfl (fun w_ hS => (rd_load (by kernel_rfl) rfl (hS.zin _ _ (hp19 2 _ (by decide) (partsC_get i t n us j 2 (by omega) (by decide)))))) ?_
    refine gd_pure 35 rfl (by kernel_rfl) (PQ.th (PQ.bk (PQ.th (PQ.th (PQ.bk (PQ.th PQ.body)))))) (hH.sublist (List.nil_sublist _)) rfl rfl (.bool (((j : Nat) : Int) != ((j : Nat) : Int))) (by kernel_rfl) ?_
    refine gd_cv 52 (.bool false) (by simp) rfl ?_
    refine gd_keep [(0, .slice Aa n ca), (1, .slice Ab n cb), (5, .int .i64 ((j : Nat) : Int)), (41, .bool false), (52, .bool false)] (by kernel_rfl) ?_
    refine gd_pure 36 rfl (by kernel_rfl) (PQ.th (PQ.bk (PQ.th (PQ.th (PQ.bk (PQ.th PQ.body)))))) (hH.sublist (List.nil_sublist _)) rfl rfl (.bool false) (by kernel_rfl) ?_
    refine gd_pure 37 rfl (by kernel_rfl) (PQ.th (PQ.bk (PQ.th (PQ.th (PQ.bk (PQ.th PQ.body)))))) (hH.sublist (List.nil_sublist _)) rfl rfl (.bool false) (by kernel_rfl) ?_
    refine gd_pure 38 rfl (by kernel_rfl) (PQ.th (PQ.bk (PQ.th (PQ.th (PQ.bk (PQ.th PQ.body)))))) (hH.sublist (List.nil_sublist _)) rfl rfl (.slice Aa n ca) (by kernel_rfl) ?_
    refine gd_keep [(0, .slice Aa n ca), (1, .slice Ab n cb), (5, .int .i64 ((j : Nat) : Int)), (54, .bool false), (55, .slice Aa n ca)] (by kernel_rfl) ?_
    refine gd_pure 39 rfl (by kernel_rfl) (PQ.th (PQ.bk (PQ.th (PQ.th (PQ.bk (PQ.th PQ.body)))))) (hH.sublist (List.nil_sublist _)) rfl rfl (.int .i64 ((j : Nat) : Int)) (by kernel_rfl) ?_
    obtain ⟨p21, hi23, hp22⟩ := kA.idx j (by omega) (by decide)
    refine gd_q 40 rfl (by kernel_rfl) (PQ.th (PQ.bk (PQ.th (PQ.th (PQ.bk (PQ.th PQ.body)))))) (hH.sublist (List.nil_sublist _)) rfl rfl (fun w_ hS => (rd_idx (e := 48) (m := 5) (by kernel_rfl) (by kernel_rfl) rfl rfl hi23)) ?_
    refine gd_pure 41 rfl (by kernel_rfl) (PQ.th (PQ.bk (PQ.th (PQ.th (PQ.bk (PQ.th PQ.body)))))) (hH.sublist (List.nil_sublist _)) rfl rfl (.pointer (some (p21.add 3))) (by kernel_rfl) ?_
    refine gd_keep [(0, .slice Aa n ca), (1, .slice Ab n cb), (5, .int .i64 ((j : Nat) : Int)), (54, .bool false), (58, .pointer (some (p21.add 3)))] (by kernel_rfl) ?_
    refine gd_q 42 rfl (by kernel_rfl) (PQ.th (PQ.bk (PQ.th (PQ.th (PQ.bk (PQ.th PQ.body)))))) (hH.sublist (List.nil_sublist _)) rfl rfl (fun w_ hS => (rd_load (by kernel_rfl) rfl (hS.zin _ _ (hp22 3 _ (by decide) (partsC_get i t n vs j 3 (by omega) (by decide)))))) ?_
    refine gd_pure 43 rfl (by kernel_rfl) (PQ.th (PQ.bk (PQ.th (PQ.th (PQ.bk (PQ.th PQ.body)))))) (hH.sublist (List.nil_sublist _)) rfl rfl (.slice Ab n cb) (by kernel_rfl) ?_
    refine gd_pure 44 rfl (by kernel_rfl) (PQ.th (PQ.bk (PQ.th (PQ.th (PQ.bk (PQ.th PQ.body)))))) (hH.sublist (List.nil_sublist _)) rfl rfl (.int .i64 ((j : Nat) : Int)) (by kernel_rfl) ?_
    refine gd_keep [(0, .slice Aa n ca), (1, .slice Ab n cb), (5, .int .i64 ((j : Nat) : Int)), (54, .bool false), (59, .int .i64 ((n : Nat) : Int)), (60, .slice Ab n cb), (61, .int .i64 ((j : Nat) : Int))] (by kernel_rfl) ?_
    obtain ⟨p24, hi26, hp25⟩ := kB.idx j (by omega) (by decide)
    refine gd_q 45 rfl (by kernel_rfl) (PQ.th (PQ.bk (PQ.th (PQ.th (PQ.bk (PQ.th PQ.body)))))) (hH.sublist (List.nil_sublist _)) rfl rfl (fun w_ hS => (rd_idx (e := 48) (m := 5) (by kernel_rfl) (by kernel_rfl) rfl rfl hi26)) ?_
    refine gd_pure 46 rfl (by kernel_rfl) (PQ.th (PQ.bk (PQ.th (PQ.th (PQ.bk (PQ.th PQ.body)))))) (hH.sublist (List.nil_sublist _)) rfl rfl (.pointer (some (p24.add 3))) (by kernel_rfl) ?_
    refine gd_q 47 rfl (by kernel_rfl) (PQ.th (PQ.bk (PQ.th (PQ.th (PQ.bk (PQ.th PQ.body)))))) (hH.sublist (List.nil_sublist _)) rfl rfl (fun w_ hS => (rd_load (by kernel_rfl) rfl (hS.zin _ _ (hp25 3 _ (by decide) (partsC_get i t n us j 3 (by omega) (by decide)))))) ?_
    refine gd_keep [(0, .slice Aa n ca), (1, .slice Ab n cb), (5, .int .i64 ((j : Nat) : Int)), (54, .bool false), (59, .int .i64 ((n : Nat) : Int)), (64, .int .i64 ((n : Nat) : Int))] (by kernel_rfl) ?_
    refine gd_pure 48 rfl (by kernel_rfl) (PQ.th (PQ.bk (PQ.th (PQ.th (PQ.bk (PQ.th PQ.body)))))) (hH.sublist (List.nil_sublist _)) rfl rfl (.bool (((n : Nat) : Int) != ((n : Nat) : Int))) (by kernel_rfl) ?_
    refine gd_cv 65 (.bool false) (by simp) rfl ?_
    refine gd_pure 49 rfl (by kernel_rfl) (PQ.th (PQ.bk (PQ.th (PQ.th (PQ.bk (PQ.th PQ.body)))))) (hH.sublist (List.nil_sublist _)) rfl rfl (.bool false) (by kernel_rfl) ?_
    refine gd_pure 50 rfl (by kernel_rfl) (PQ.th (PQ.bk (PQ.th (PQ.th (PQ.bk (PQ.th PQ.body)))))) (hH.sublist (List.nil_sublist _)) rfl rfl (.bool false) (by kernel_rfl) ?_
    refine gd_keep [(0, .slice Aa n ca), (1, .slice Ab n cb), (5, .int .i64 ((j : Nat) : Int)), (67, .bool false)] (by kernel_rfl) ?_
    refine gd_pure 51 rfl (by kernel_rfl) (PQ.th (PQ.bk (PQ.th (PQ.th (PQ.bk (PQ.th PQ.body)))))) (hH.sublist (List.nil_sublist _)) rfl rfl (.slice Aa n ca) (by kernel_rfl) ?_
    refine gd_pure 52 rfl (by kernel_rfl) (PQ.th (PQ.bk (PQ.th (PQ.th (PQ.bk (PQ.th PQ.body)))))) (hH.sublist (List.nil_sublist _)) rfl rfl (.int .i64 ((j : Nat) : Int)) (by kernel_rfl) ?_
    obtain ⟨p27, hi29, hp28⟩ := kA.idx j (by omega) (by decide)
    refine gd_q 53 rfl (by kernel_rfl) (PQ.th (PQ.bk (PQ.th (PQ.th (PQ.bk (PQ.th PQ.body)))))) (hH.sublist (List.nil_sublist _)) rfl rfl (fun w_ hS => (rd_idx (e := 48) (m := 5) (by kernel_rfl) (by kernel_rfl) rfl rfl hi29)) ?_
    refine gd_keep [(0, .slice Aa n ca), (1, .slice Ab n cb), (5, .int .i64 ((j : Nat) : Int)), (67, .bool false), (70, .pointer (some p27))] (by kernel_rfl) ?_
    refine gd_pure 54 rfl (by kernel_rfl) (PQ.th (PQ.bk (PQ.th (PQ.th (PQ.bk (PQ.th PQ.body)))))) (hH.sublist (List.nil_sublist _)) rfl rfl (.pointer (some (p27.add 4))) (by kernel_rfl) ?_
    refine gd_q 55 rfl (by kernel_rfl) (PQ.th (PQ.bk (PQ.th (PQ.th (PQ.bk (PQ.th PQ.body)))))) (hH.sublist (List.nil_sublist _)) rfl rfl (fun w_ hS => (rd_load (by kernel_rfl) rfl (hS.zin _ _ (hp28 4 _ (by decide) (partsC_get i t n vs j 4 (by omega) (by decide)))))) ?_
    refine gd_q 56 rfl (by kernel_rfl) (PQ.th (PQ.bk (PQ.th (PQ.th (PQ.bk (PQ.th PQ.body)))))) (hH.sublist (List.nil_sublist _)) rfl rfl (fun w_ hS => (rd_str (e := 5) (by kernel_rfl) (by kernel_rfl) (by kernel_rfl) rfl ((h1 j (by omega)).mono hS.zin))) ?_
    refine gd_keep [(0, .slice Aa n ca), (1, .slice Ab n cb), (5, .int .i64 ((j : Nat) : Int)), (67, .bool false), (73, .string (bs (chunkB b j)))] (by kernel_rfl) ?_
    refine gd_pure 57 rfl (by kernel_rfl) (PQ.th (PQ.bk (PQ.th (PQ.th (PQ.bk (PQ.th PQ.body)))))) (hH.sublist (List.nil_sublist _)) rfl rfl (.slice Ab n cb) (by kernel_rfl) ?_
    refine gd_pure 58 rfl (by kernel_rfl) (PQ.th (PQ.bk (PQ.th (PQ.th (PQ.bk (PQ.th PQ.body)))))) (hH.sublist (List.nil_sublist _)) rfl rfl (.int .i64 ((j : Nat) : Int)) (by kernel_rfl) ?_
    obtain ⟨p30, hi32, hp31⟩ := kB.idx j (by omega) (by decide)
    refine gd_q 59 rfl (by kernel_rfl) (PQ.th (PQ.bk (PQ.th (PQ.th (PQ.bk (PQ.th PQ.body)))))) (hH.sublist (List.nil_sublist _)) rfl rfl (fun w_ hS => (rd_idx (e := 48) (m := 5) (by kernel_rfl) (by kernel_rfl) rfl rfl hi32)) ?_
    refine gd_keep [(0, .slice Aa n ca), (1, .slice Ab n cb), (5, .int .i64 ((j : Nat) : Int)), (67, .bool false), (73, .string (bs (chunkB b j))), (76, .pointer (some p30))] (by kernel_rfl) ?_
    refine gd_pure 60 rfl (by kernel_rfl) (PQ.th (PQ.bk (PQ.th (PQ.th (PQ.bk (PQ.th PQ.body)))))) (hH.sublist (List.nil_sublist _)) rfl rfl (.pointer (some (p30.add 4))) (by kernel_rfl) ?_
    refine gd_q 61 rfl (by kernel_rfl) (PQ.th (PQ.bk (PQ.th (PQ.th (PQ.bk (PQ.th PQ.body)))))) (hH.sublist (List.nil_sublist _)) rfl rfl (fun w_ hS => (rd_load (by kernel_rfl) rfl (hS.zin _ _ (hp31 4 _ (by decide) (partsC_get i t n us j 4 (by omega) (by decide)))))) ?_
    refine gd_q 62 rfl (by kernel_rfl) (PQ.th (PQ.bk (PQ.th (PQ.th (PQ.bk (PQ.th PQ.body)))))) (hH.sublist (List.nil_sublist _)) rfl rfl (fun w_ hS => (rd_str (e := 5) (by kernel_rfl) (by kernel_rfl) (by kernel_rfl) rfl ((h2 j (by omega)).mono hS.zin))) ?_
    refine gd_keep [(0, .slice Aa n ca), (1, .slice Ab n cb), (5, .int .i64 ((j : Nat) : Int)), (67, .bool false), (73, .string (bs (chunkB b j))), (79, .string (bs (chunkB b j)))] (by kernel_rfl) ?_
    refine gd_q 63 rfl (by kernel_rfl) (PQ.th (PQ.bk (PQ.th (PQ.th (PQ.bk (PQ.th PQ.body)))))) (hH.sublist (List.nil_sublist _)) rfl rfl (fun w_ hS => (rd_sneq (by kernel_rfl) rfl rfl)) ?_
    refine gd_cv 80 (.bool false) (by simp) rfl ?_
    refine gd_pure 64 rfl (by kernel_rfl) (PQ.th (PQ.bk (PQ.th (PQ.th (PQ.bk (PQ.th PQ.body)))))) (hH.sublist (List.nil_sublist _)) rfl rfl (.bool false) (by kernel_rfl) ?_
    refine gd_done (by kernel_rfl) ?_
    refine at_sub [(0, .slice Aa n ca), (1, .slice Ab n cb), (5, .int .i64 ((j : Nat) : Int)), (81, .bool false)] (Sub.of_eq (by kernel_rfl)) ?_
    refine sw_next ?_
    refine sw_false rfl rfl ?_
    refine sw_skip ?_
    refine bkN ?_
    refine sw_next ?_
    refine sw_region ?_  -- R5 ref.go:108
    refine gl_ops 2 [(0, .slice Aa n ca), (1, .slice Ab n cb), (16, .int .i64 (IntKind.i64.wrap (((j : Nat) : Int) + 1)))] (by kernel_rfl) ?_
    refine gl_cv 16 (.int .i64 ((j + 1 : Nat) : Int)) (cv_i64 (by omega)) rfl ?_
    refine gl_ops 1 [(0, .slice Aa n ca), (1, .slice Ab n cb), (5, .int .i64 ((j + 1 : Nat) : Int))] (by kernel_rfl) ?_
    refine gl_done rfl ?_
    refine rnd_end (g := (j)) (j + 1) (by kernel_rfl) ?_ ?_
    · exact ⟨by omega, hH⟩
    · show n - (j + 1) < n - j; omega
  try simp only [decide_eq_false_iff_not, beq_eq_false_iff_ne, bne_eq_false_iff_eq, ne_eq, Decidable.not_not, Int.not_lt, Int.not_le, Bool.not_eq_false', beq_iff_eq, bne_iff_ne, decide_eq_true_eq] at hc2
  refine sw_exit ?_
  refine thX ?_
  refine thX ?_
  refine bkH ?_
  refine sw_next ?_
  refine sw_seq ?_
  refine sw_region ?_  -- R8 ref.go:113
  refine gl_ops 1 [(4, .bool true)] (by kernel_rfl) ?_
  refine gl_done rfl ?_
  refine sw_next ?_
  refine sw_ret ?_
  refine ret1 rfl rfl  ?_
  exact ⟨rfl, hH.fresh⟩
end Go.Proofs.YtjcchjgkkplamaaDoor
