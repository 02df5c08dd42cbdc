/- Law 20: parts of older snapshots are refused: the law's walk. -/
import Derived.Test.YtjcchjgkkplamaaDoorSmall
import Derived.Test.YtjcchjgkkplamaaDoorSWQ
set_option maxRecDepth 100000
set_option maxHeartbeats 2000000
set_option linter.unusedVariables false
set_option linter.unusedSimpArgs false
namespace Go.Proofs.YtjcchjgkkplamaaDoor
open Go.RowKit Go.SW
theorem first_facts {i t : Int} {cf dt b : List UInt8} (h : Whole i t cf dt b) (k : Nat) (hk : k < nch b.length) {v : Value} {R : Ibx × Snp × Bool × Nat} (hR : R = putI ⟨none, 0, []⟩ (partP i t b k) v) :
    R.1.new = some (t, i) ∧ R.2.2.2 = 0 ∧ R.2.2.1 = decide (nch b.length = 1) := by
  rw [put_first h k hk v] at hR
  subst hR
  by_cases h1 : nch b.length = 1
  · rw [if_pos h1]; exact ⟨rfl, rfl, by simp [h1]⟩
  · rw [if_neg h1]; exact ⟨rfl, rfl, by simp [h1]⟩
theorem older_put {S : Ibx} {tn ix : Int} (hn : S.new = some (tn, ix)) {i t : Int} {cf dt b : List UInt8} (h : Whole i t cf dt b) (hold : t < tn ∨ t = tn ∧ i < ix) (k : Nat) (hk : k < nch b.length) (v : Value) :
    putI S (partP i t b k) v = (S, ⟨0, 0, [], []⟩, false, 91) := putI_ref v (h.mayP k hk) (older_not hn hold k)

theorem VaultOlder_ct (i t i2 t2 at_ of_ : Int) (vc vd vc2 vd2 : Value) (cf dt cf2 dt2 : List UInt8) (w : World) (hG : w.cell? ⟨0, 0, none⟩ = some errTy) (kc : RB w.cell? vc cf) (kd : RB w.cell? vd dt) (kcb : RB w.cell? vc2 cf2) (kdb : RB w.cell? vd2 dt2)
    (hi : -9223372036854775808 ≤ i ∧ i ≤ 9223372036854775807) (ht : -9223372036854775808 ≤ t ∧ t ≤ 9223372036854775807) (hi2 : -9223372036854775808 ≤ i2 ∧ i2 ≤ 9223372036854775807) (ht2 : -9223372036854775808 ≤ t2 ∧ t2 ≤ 9223372036854775807)
    (hdl : dt.length ≤ 140737488355328) (hdl2 : dt2.length ≤ 140737488355328) :
    Fun Tryd.prog 6 [.agg #[.int .i64 i, .int .i64 t, vc, vd], .agg #[.int .i64 i2, .int .i64 t2, vc2, vd2], .int .i64 at_, .int .i64 of_] w fun v w' => v = .bool true ∧ Fresh w w' [] := by
  obtain ⟨Ac, cc, rfl, kc1, kc2⟩ := kc.row.form
  obtain ⟨Ad, cd, rfl, kd1, kd2⟩ := kd.row.form
  obtain ⟨Ac2, cc2, rfl, kcb1, kcb2⟩ := kcb.row.form
  obtain ⟨Ad2, cd2, rfl, kdb1, kdb2⟩ := kdb.row.form
  refine fun_of_sw Tryd.func6 rfl 160 rfl rfl ?_
  have hH := Hp.start w
  refine sw_seq ?_
  refine sw_region ?_  -- R0 more.go:9
  refine gl_st (st_boxH (cs := [.int .i64 i, .int .i64 t, .slice Ac cf.length cc, .slice Ad dt.length cd]) rfl rfl rfl rfl hH ?_)
  clear hH; intro b1 w2 hH
  refine gl_st (st_boxH (cs := [.int .i64 i2, .int .i64 t2, .slice Ac2 cf2.length cc2, .slice Ad2 dt2.length cd2]) rfl rfl rfl rfl hH ?_)
  clear hH; intro b3 w4 hH
  refine gl_ops 1 [(2, .int .i64 at_), (3, .int .i64 of_), (4, .pointer (some ⟨b1, 0, none⟩)), (5, .pointer (some ⟨b3, 0, none⟩))] (by kernel_rfl) ?_
  refine gl_done rfl ?_
  refine sw_next ?_
  refine sw_seq ?_
  refine sw_region ?_  -- R1 more.go:10
  refine gl_st (st_call rfl rfl rfl (by kernel_rfl) rfl (Small_ct _ (hH.zin _ _ hG)) ?_)
  rintro _ w5 ⟨rfl, hF6⟩
  replace hH := hH.call hF6; clear hF6
  refine gl_ops 1 [(2, .int .i64 at_), (3, .int .i64 of_), (4, .pointer (some ⟨b1, 0, none⟩)), (5, .pointer (some ⟨b3, 0, none⟩)), (9, .bool true)] (by kernel_rfl) ?_
  refine gl_done rfl ?_
  refine sw_next ?_
  refine sw_seq ?_
  refine sw_region ?_  -- R2 more.go:11
  refine gl_q rfl rfl rfl (rd_loadKA (m := 4) 0 (by kernel_rfl) hH rfl rfl (by kernel_rfl) [.int .i64 i, .int .i64 t, .slice Ac cf.length cc, .slice Ad dt.length cd] rfl rfl) ?_
  refine gl_st (st_call rfl rfl rfl (by kernel_rfl) rfl (Split_ct (i : Int) (t : Int) _ _ cf dt _ (kc.mono hH.zin) (kd.mono hH.zin) (by omega) (by omega) (by omega)) ?_)
  rintro _ w12 ⟨v7, vs8, rfl, hl9, hF13⟩
  replace hH := hH.call hF13; clear hF13
  replace hH := hH.row_eq 2 (l' := nch (splitB (i : Int) (t : Int) cf dt).length) (xs' := partsC (i : Int) (t : Int) (nch (splitB (i : Int) (t : Int) cf dt).length) vs8) rfl hl9 (by rw [hl9])
  obtain ⟨A14, c15, rfl, hl16, hm17⟩ := hH.row_form 2 rfl
  refine gl_ops 5 [(2, .int .i64 at_), (3, .int .i64 of_), (4, .pointer (some ⟨b1, 0, none⟩)), (5, .pointer (some ⟨b3, 0, none⟩)), (9, .bool true), (10, .slice A14 (nch (splitB (i : Int) (t : Int) cf dt).length) c15), (11, errV (splitE (i : Int) (t : Int) cf dt))] (by kernel_rfl) ?_
  refine gl_done rfl ?_
  refine sw_next ?_
  refine sw_seq ?_
  refine sw_region ?_  -- R3 more.go:12
  refine gl_q rfl rfl rfl (rd_loadKA (m := 4) 1 (by kernel_rfl) hH rfl rfl (by kernel_rfl) [.int .i64 i2, .int .i64 t2, .slice Ac2 cf2.length cc2, .slice Ad2 dt2.length cd2] rfl rfl) ?_
  refine gl_st (st_call rfl rfl rfl (by kernel_rfl) rfl (Split_ct (i2 : Int) (t2 : Int) _ _ cf2 dt2 _ (kcb.mono hH.zin) (kdb.mono hH.zin) (by omega) (by omega) (by omega)) ?_)
  rintro _ w23 ⟨v18, vs19, rfl, hl20, hF24⟩
  replace hH := hH.call hF24; clear hF24
  replace hH := hH.row_eq 4 (l' := nch (splitB (i2 : Int) (t2 : Int) cf2 dt2).length) (xs' := partsC (i2 : Int) (t2 : Int) (nch (splitB (i2 : Int) (t2 : Int) cf2 dt2).length) vs19) rfl hl20 (by rw [hl20])
  obtain ⟨A25, c26, rfl, hl27, hm28⟩ := hH.row_form 4 rfl
  refine gl_ops 5 [(2, .int .i64 at_), (3, .int .i64 of_), (4, .pointer (some ⟨b1, 0, none⟩)), (5, .pointer (some ⟨b3, 0, none⟩)), (9, .bool true), (10, .slice A14 (nch (splitB (i : Int) (t : Int) cf dt).length) c15), (11, errV (splitE (i : Int) (t : Int) cf dt)), (12, .slice A25 (nch (splitB (i2 : Int) (t2 : Int) cf2 dt2).length) c26), (13, errV (splitE (i2 : Int) (t2 : Int) cf2 dt2))] (by kernel_rfl) ?_
  refine gl_done rfl ?_
  refine sw_next ?_
  refine sw_seq ?_
  refine sw_region ?_  -- R4 more.go:13
  refine gl_st (st_call rfl rfl rfl (by kernel_rfl) rfl (NewInbox_ct _) ?_)
  rintro _ w32 ⟨xb29, mb30, rfl, hF33⟩
  replace hH := hH.call hF33; clear hF33
  refine gl_ops 1 [(2, .int .i64 at_), (3, .int .i64 of_), (4, .pointer (some ⟨b1, 0, none⟩)), (5, .pointer (some ⟨b3, 0, none⟩)), (9, .bool true), (10, .slice A14 (nch (splitB (i : Int) (t : Int) cf dt).length) c15), (11, errV (splitE (i : Int) (t : Int) cf dt)), (12, .slice A25 (nch (splitB (i2 : Int) (t2 : Int) cf2 dt2).length) c26), (13, errV (splitE (i2 : Int) (t2 : Int) cf2 dt2)), (14, .pointer (some ⟨xb29, 0, none⟩))] (by kernel_rfl) ?_
  refine gl_done rfl ?_
  refine sw_next ?_
  refine sw_seq ?_
  refine sw_seq ?_
  refine sw_region ?_  -- R5 more.go:14
  refine gl_ops 8 [(2, .int .i64 at_), (3, .int .i64 of_), (4, .pointer (some ⟨b1, 0, none⟩)), (5, .pointer (some ⟨b3, 0, none⟩)), (9, .bool true), (10, .slice A14 (nch (splitB (i : Int) (t : Int) cf dt).length) c15), (12, .slice A25 (nch (splitB (i2 : Int) (t2 : Int) cf2 dt2).length) c26), (13, errV (splitE (i2 : Int) (t2 : Int) cf2 dt2)), (14, .pointer (some ⟨xb29, 0, none⟩)), (46, .bool false), (47, errV (splitE (i : Int) (t : Int) cf dt))] (by kernel_rfl) ?_
  refine gl_q rfl rfl rfl (rd_err_ne (by kernel_rfl) rfl) ?_
  refine gl_ops 2 [(2, .int .i64 at_), (3, .int .i64 of_), (4, .pointer (some ⟨b1, 0, none⟩)), (5, .pointer (some ⟨b3, 0, none⟩)), (9, .bool true), (10, .slice A14 (nch (splitB (i : Int) (t : Int) cf dt).length) c15), (12, .slice A25 (nch (splitB (i2 : Int) (t2 : Int) cf2 dt2).length) c26), (13, errV (splitE (i2 : Int) (t2 : Int) cf2 dt2)), (14, .pointer (some ⟨xb29, 0, none⟩)), (50, .bool ((splitE (i : Int) (t : Int) cf dt) != 0))] (by kernel_rfl) ?_
  refine gl_split 50 (b := (splitE (i : Int) (t : Int) cf dt) != 0) rfl (fun hg1 => ?_) (fun hg1 => ?_)
  ·
    try simp only [decide_eq_true_eq, beq_iff_eq, bne_iff_ne, ne_eq, Bool.not_eq_true', beq_eq_false_iff_ne, bne_eq_false_iff_eq, decide_eq_false_iff_not, Int.not_lt, Int.not_le] at hg1
    refine gl_ops 3 [(2, .int .i64 at_), (3, .int .i64 of_), (4, .pointer (some ⟨b1, 0, none⟩)), (5, .pointer (some ⟨b3, 0, none⟩)), (9, .bool true), (10, .slice A14 (nch (splitB (i : Int) (t : Int) cf dt).length) c15), (12, .slice A25 (nch (splitB (i2 : Int) (t2 : Int) cf2 dt2).length) c26), (14, .pointer (some ⟨xb29, 0, none⟩)), (53, .bool true)] (by kernel_rfl) ?_
    refine gl_done rfl ?_
    refine sw_next ?_
    refine sw_true rfl rfl ?_
    refine sw_seq ?_
    refine sw_region ?_  -- R6 more.go:15
    refine gl_ops 6 [(8, .bool true)] (by kernel_rfl) ?_
    refine gl_done rfl ?_
    refine sw_next ?_
    refine sw_ret ?_
    refine thR ?_
    refine ret1 rfl rfl  ?_
    exact ⟨rfl, (hH.sublist (List.nil_sublist _)).fresh⟩
  try simp only [decide_eq_false_iff_not, beq_eq_false_iff_ne, bne_eq_false_iff_eq, ne_eq, Decidable.not_not, Int.not_lt, Int.not_le, Bool.not_eq_false', beq_iff_eq, bne_iff_ne, decide_eq_true_eq] at hg1
  have hE1 : splitE (i : Int) (t : Int) cf dt = 0 := hg1
  have hW1 := whole_of_split (i := i) (t := t) (by omega) (by omega) hE1
  refine gl_ops 1 [(2, .int .i64 at_), (3, .int .i64 of_), (4, .pointer (some ⟨b1, 0, none⟩)), (5, .pointer (some ⟨b3, 0, none⟩)), (9, .bool true), (10, .slice A14 (nch (splitB (i : Int) (t : Int) cf dt).length) c15), (12, .slice A25 (nch (splitB (i2 : Int) (t2 : Int) cf2 dt2).length) c26), (14, .pointer (some ⟨xb29, 0, none⟩)), (50, .bool false), (51, errV (splitE (i2 : Int) (t2 : Int) cf2 dt2))] (by kernel_rfl) ?_
  refine gl_q rfl rfl rfl (rd_err_ne (by kernel_rfl) rfl) ?_
  refine gl_ops 1 [(2, .int .i64 at_), (3, .int .i64 of_), (4, .pointer (some ⟨b1, 0, none⟩)), (5, .pointer (some ⟨b3, 0, none⟩)), (9, .bool true), (10, .slice A14 (nch (splitB (i : Int) (t : Int) cf dt).length) c15), (12, .slice A25 (nch (splitB (i2 : Int) (t2 : Int) cf2 dt2).length) c26), (14, .pointer (some ⟨xb29, 0, none⟩)), (53, .bool ((splitE (i2 : Int) (t2 : Int) cf2 dt2) != 0))] (by kernel_rfl) ?_
  refine gl_done rfl ?_
  refine sw_next ?_
  refine sw_cond rfl rfl (fun hc3 => ?_) (fun hc3 => ?_)
  ·
    try simp only [decide_eq_true_eq, beq_iff_eq, bne_iff_ne, ne_eq, Bool.not_eq_true', beq_eq_false_iff_ne, bne_eq_false_iff_eq, decide_eq_false_iff_not, Int.not_lt, Int.not_le] at hc3
    refine sw_seq ?_
    refine sw_region ?_  -- R6 more.go:15
    refine gl_ops 6 [(8, .bool true)] (by kernel_rfl) ?_
    refine gl_done rfl ?_
    refine sw_next ?_
    refine sw_ret ?_
    refine thR ?_
    refine ret1 rfl rfl  ?_
    exact ⟨rfl, (hH.sublist (List.nil_sublist _)).fresh⟩
  try simp only [decide_eq_false_iff_not, beq_eq_false_iff_ne, bne_eq_false_iff_eq, ne_eq, Decidable.not_not, Int.not_lt, Int.not_le, Bool.not_eq_false', beq_iff_eq, bne_iff_ne, decide_eq_true_eq] at hc3
  have hE2 : splitE (i2 : Int) (t2 : Int) cf2 dt2 = 0 := hc3
  have hW2 := whole_of_split (i := i2) (t := t2) (by omega) (by omega) hE2
  refine sw_skip ?_
  refine sw_next ?_
  refine sw_seq ?_
  refine sw_seq ?_
  refine sw_region ?_  -- R7 more.go:17
  refine gl_ops 1 [(2, .int .i64 at_), (3, .int .i64 of_), (4, .pointer (some ⟨b1, 0, none⟩)), (5, .pointer (some ⟨b3, 0, none⟩)), (10, .slice A14 (nch (splitB (i : Int) (t : Int) cf dt).length) c15), (12, .slice A25 (nch (splitB (i2 : Int) (t2 : Int) cf2 dt2).length) c26), (14, .pointer (some ⟨xb29, 0, none⟩)), (59, .slice A14 (nch (splitB (i : Int) (t : Int) cf dt).length) c15)] (by kernel_rfl) ?_
  refine gl_q rfl rfl rfl (rd_len (e := 48) (by kernel_rfl) rfl) ?_
  refine gl_ops 1 [(2, .int .i64 at_), (3, .int .i64 of_), (4, .pointer (some ⟨b1, 0, none⟩)), (5, .pointer (some ⟨b3, 0, none⟩)), (10, .slice A14 (nch (splitB (i : Int) (t : Int) cf dt).length) c15), (12, .slice A25 (nch (splitB (i2 : Int) (t2 : Int) cf2 dt2).length) c26), (14, .pointer (some ⟨xb29, 0, none⟩)), (61, .bool (((nch (splitB (i : Int) (t : Int) cf dt).length : Nat) : Int) == (0 : Int)))] (by kernel_rfl) ?_
  refine gl_cv 61 (.bool false) (cv_ne0 hW1.n1) rfl ?_
  refine gl_ops 2 [(2, .int .i64 at_), (3, .int .i64 of_), (4, .pointer (some ⟨b1, 0, none⟩)), (5, .pointer (some ⟨b3, 0, none⟩)), (10, .slice A14 (nch (splitB (i : Int) (t : Int) cf dt).length) c15), (12, .slice A25 (nch (splitB (i2 : Int) (t2 : Int) cf2 dt2).length) c26), (14, .pointer (some ⟨xb29, 0, none⟩)), (62, .bool false), (63, .slice A25 (nch (splitB (i2 : Int) (t2 : Int) cf2 dt2).length) c26)] (by kernel_rfl) ?_
  refine gl_q rfl rfl rfl (rd_len (e := 48) (by kernel_rfl) rfl) ?_
  refine gl_ops 1 [(2, .int .i64 at_), (3, .int .i64 of_), (4, .pointer (some ⟨b1, 0, none⟩)), (5, .pointer (some ⟨b3, 0, none⟩)), (10, .slice A14 (nch (splitB (i : Int) (t : Int) cf dt).length) c15), (12, .slice A25 (nch (splitB (i2 : Int) (t2 : Int) cf2 dt2).length) c26), (14, .pointer (some ⟨xb29, 0, none⟩)), (62, .bool false), (65, .bool (((nch (splitB (i2 : Int) (t2 : Int) cf2 dt2).length : Nat) : Int) == (0 : Int)))] (by kernel_rfl) ?_
  refine gl_cv 65 (.bool false) (cv_ne0 hW2.n1) rfl ?_
  refine gl_ops 1 [(2, .int .i64 at_), (3, .int .i64 of_), (4, .pointer (some ⟨b1, 0, none⟩)), (5, .pointer (some ⟨b3, 0, none⟩)), (10, .slice A14 (nch (splitB (i : Int) (t : Int) cf dt).length) c15), (12, .slice A25 (nch (splitB (i2 : Int) (t2 : Int) cf2 dt2).length) c26), (14, .pointer (some ⟨xb29, 0, none⟩)), (66, .bool false)] (by kernel_rfl) ?_
  refine gl_done rfl ?_
  refine sw_next ?_
  refine sw_false rfl rfl ?_
  refine sw_skip ?_
  refine sw_next ?_
  refine sw_cut (γ := Unit) (fun _ => [(2, .int .i64 at_), (3, .int .i64 of_), (10, .slice A14 (nch (splitB (i : Int) (t : Int) cf dt).length) c15), (12, .slice A25 (nch (splitB (i2 : Int) (t2 : Int) cf2 dt2).length) c26), (14, .pointer (some ⟨xb29, 0, none⟩))]) (fun _ w_ => (t2 < t ∨ t2 = t ∧ i2 < i) ∧ Hp w w_ (w.cell?) [] [.blk b1 24 [.int .i64 i, .int .i64 t, .slice Ac cf.length cc, .slice Ad dt.length cd], .blk b3 24 [.int .i64 i2, .int .i64 t2, .slice Ac2 cf2.length cc2, .slice Ad2 dt2.length cd2], .row (.slice A14 (nch (splitB (i : Int) (t : Int) cf dt).length) c15) 48 5 (nch (splitB (i : Int) (t : Int) cf dt).length) (partsC (i : Int) (t : Int) (nch (splitB (i : Int) (t : Int) cf dt).length) vs8), .grp (partOwn 5 (splitB (i : Int) (t : Int) cf dt) vs8), .row (.slice A25 (nch (splitB (i2 : Int) (t2 : Int) cf2 dt2).length) c26) 48 5 (nch (splitB (i2 : Int) (t2 : Int) cf2 dt2).length) (partsC (i2 : Int) (t2 : Int) (nch (splitB (i2 : Int) (t2 : Int) cf2 dt2).length) vs19), .grp (partOwn 5 (splitB (i2 : Int) (t2 : Int) cf2 dt2) vs19), .grp (ibxO xb29 0 mb30 ⟨none, 0, []⟩ [])]) ?_ ?_
  ·
    refine sw_seq ?_
    refine sw_region ?_  -- R9 more.go:20
    refine gl_ops 1 [(2, .int .i64 at_), (3, .int .i64 of_), (4, .pointer (some ⟨b1, 0, none⟩)), (5, .pointer (some ⟨b3, 0, none⟩)), (10, .slice A14 (nch (splitB (i : Int) (t : Int) cf dt).length) c15), (12, .slice A25 (nch (splitB (i2 : Int) (t2 : Int) cf2 dt2).length) c26), (14, .pointer (some ⟨xb29, 0, none⟩)), (67, .pointer (some ⟨b3, 1, none⟩))] (by kernel_rfl) ?_
    refine gl_q rfl rfl rfl (rd_loadK 1 (by kernel_rfl) hH rfl rfl rfl) ?_
    refine gl_ops 1 [(2, .int .i64 at_), (3, .int .i64 of_), (4, .pointer (some ⟨b1, 0, none⟩)), (5, .pointer (some ⟨b3, 0, none⟩)), (10, .slice A14 (nch (splitB (i : Int) (t : Int) cf dt).length) c15), (12, .slice A25 (nch (splitB (i2 : Int) (t2 : Int) cf2 dt2).length) c26), (14, .pointer (some ⟨xb29, 0, none⟩)), (68, .int .i64 t2), (69, .pointer (some ⟨b1, 1, none⟩))] (by kernel_rfl) ?_
    refine gl_q rfl rfl rfl (rd_loadK 0 (by kernel_rfl) hH rfl rfl rfl) ?_
    refine gl_ops 2 [(2, .int .i64 at_), (3, .int .i64 of_), (4, .pointer (some ⟨b1, 0, none⟩)), (5, .pointer (some ⟨b3, 0, none⟩)), (10, .slice A14 (nch (splitB (i : Int) (t : Int) cf dt).length) c15), (12, .slice A25 (nch (splitB (i2 : Int) (t2 : Int) cf2 dt2).length) c26), (14, .pointer (some ⟨xb29, 0, none⟩)), (72, .bool (decide ((t2 : Int) > (t : Int))))] (by kernel_rfl) ?_
    refine gl_split 72 (b := decide ((t2 : Int) > (t : Int))) rfl (fun hg5 => ?_) (fun hg5 => ?_)
    ·
      try simp only [decide_eq_true_eq, beq_iff_eq, bne_iff_ne, ne_eq, Bool.not_eq_true', beq_eq_false_iff_ne, bne_eq_false_iff_eq, decide_eq_false_iff_not, Int.not_lt, Int.not_le] at hg5
      refine gl_ops 13 [(2, .int .i64 at_), (3, .int .i64 of_), (10, .slice A14 (nch (splitB (i : Int) (t : Int) cf dt).length) c15), (12, .slice A25 (nch (splitB (i2 : Int) (t2 : Int) cf2 dt2).length) c26), (14, .pointer (some ⟨xb29, 0, none⟩)), (85, .bool true)] (by kernel_rfl) ?_
      refine gl_done rfl ?_
      refine sw_next ?_
      refine sw_true rfl rfl ?_
      refine sw_seq ?_
      refine sw_region ?_  -- R10 more.go:21
      refine gl_ops 1 [(8, .bool true)] (by kernel_rfl) ?_
      refine gl_done rfl ?_
      refine sw_next ?_
      refine sw_ret ?_
      refine thR ?_
      refine ret1 rfl rfl  ?_
      exact ⟨rfl, (hH.sublist (List.nil_sublist _)).fresh⟩
    try simp only [decide_eq_false_iff_not, beq_eq_false_iff_ne, bne_eq_false_iff_eq, ne_eq, Decidable.not_not, Int.not_lt, Int.not_le, Bool.not_eq_false', beq_iff_eq, bne_iff_ne, decide_eq_true_eq] at hg5
    refine gl_ops 1 [(2, .int .i64 at_), (3, .int .i64 of_), (4, .pointer (some ⟨b1, 0, none⟩)), (5, .pointer (some ⟨b3, 0, none⟩)), (10, .slice A14 (nch (splitB (i : Int) (t : Int) cf dt).length) c15), (12, .slice A25 (nch (splitB (i2 : Int) (t2 : Int) cf2 dt2).length) c26), (14, .pointer (some ⟨xb29, 0, none⟩)), (72, .bool false), (73, .pointer (some ⟨b3, 1, none⟩))] (by kernel_rfl) ?_
    refine gl_q rfl rfl rfl (rd_loadK 1 (by kernel_rfl) hH rfl rfl rfl) ?_
    refine gl_ops 1 [(2, .int .i64 at_), (3, .int .i64 of_), (4, .pointer (some ⟨b1, 0, none⟩)), (5, .pointer (some ⟨b3, 0, none⟩)), (10, .slice A14 (nch (splitB (i : Int) (t : Int) cf dt).length) c15), (12, .slice A25 (nch (splitB (i2 : Int) (t2 : Int) cf2 dt2).length) c26), (14, .pointer (some ⟨xb29, 0, none⟩)), (72, .bool false), (74, .int .i64 t2), (75, .pointer (some ⟨b1, 1, none⟩))] (by kernel_rfl) ?_
    refine gl_q rfl rfl rfl (rd_loadK 0 (by kernel_rfl) hH rfl rfl rfl) ?_
    refine gl_ops 2 [(2, .int .i64 at_), (3, .int .i64 of_), (4, .pointer (some ⟨b1, 0, none⟩)), (5, .pointer (some ⟨b3, 0, none⟩)), (10, .slice A14 (nch (splitB (i : Int) (t : Int) cf dt).length) c15), (12, .slice A25 (nch (splitB (i2 : Int) (t2 : Int) cf2 dt2).length) c26), (14, .pointer (some ⟨xb29, 0, none⟩)), (72, .bool false), (78, .bool ((t2 : Int) == (t : Int)))] (by kernel_rfl) ?_
    refine gl_split 78 (b := (t2 : Int) == (t : Int)) rfl (fun hg7 => ?_) (fun hg7 => ?_)
    ·
      try simp only [decide_eq_true_eq, beq_iff_eq, bne_iff_ne, ne_eq, Bool.not_eq_true', beq_eq_false_iff_ne, bne_eq_false_iff_eq, decide_eq_false_iff_not, Int.not_lt, Int.not_le] at hg7
      refine gl_ops 1 [(2, .int .i64 at_), (3, .int .i64 of_), (4, .pointer (some ⟨b1, 0, none⟩)), (10, .slice A14 (nch (splitB (i : Int) (t : Int) cf dt).length) c15), (12, .slice A25 (nch (splitB (i2 : Int) (t2 : Int) cf2 dt2).length) c26), (14, .pointer (some ⟨xb29, 0, none⟩)), (72, .bool false), (78, .bool true), (79, .pointer (some ⟨b3, 0, none⟩))] (by kernel_rfl) ?_
      refine gl_q rfl rfl rfl (rd_loadK 1 (by kernel_rfl) hH rfl rfl rfl) ?_
      refine gl_ops 1 [(2, .int .i64 at_), (3, .int .i64 of_), (10, .slice A14 (nch (splitB (i : Int) (t : Int) cf dt).length) c15), (12, .slice A25 (nch (splitB (i2 : Int) (t2 : Int) cf2 dt2).length) c26), (14, .pointer (some ⟨xb29, 0, none⟩)), (72, .bool false), (78, .bool true), (80, .int .i64 i2), (81, .pointer (some ⟨b1, 0, none⟩))] (by kernel_rfl) ?_
      refine gl_q rfl rfl rfl (rd_loadK 0 (by kernel_rfl) hH rfl rfl rfl) ?_
      refine gl_ops 3 [(2, .int .i64 at_), (3, .int .i64 of_), (10, .slice A14 (nch (splitB (i : Int) (t : Int) cf dt).length) c15), (12, .slice A25 (nch (splitB (i2 : Int) (t2 : Int) cf2 dt2).length) c26), (14, .pointer (some ⟨xb29, 0, none⟩)), (85, .bool (decide ((i2 : Int) ≥ (i : Int))))] (by kernel_rfl) ?_
      refine gl_done rfl ?_
      refine sw_next ?_
      refine sw_cond rfl rfl (fun hc8 => ?_) (fun hc8 => ?_)
      ·
        try simp only [decide_eq_true_eq, beq_iff_eq, bne_iff_ne, ne_eq, Bool.not_eq_true', beq_eq_false_iff_ne, bne_eq_false_iff_eq, decide_eq_false_iff_not, Int.not_lt, Int.not_le] at hc8
        refine sw_seq ?_
        refine sw_region ?_  -- R10 more.go:21
        refine gl_ops 1 [(8, .bool true)] (by kernel_rfl) ?_
        refine gl_done rfl ?_
        refine sw_next ?_
        refine sw_ret ?_
        refine thR ?_
        refine ret1 rfl rfl  ?_
        exact ⟨rfl, (hH.sublist (List.nil_sublist _)).fresh⟩
      try simp only [decide_eq_false_iff_not, beq_eq_false_iff_ne, bne_eq_false_iff_eq, ne_eq, Decidable.not_not, Int.not_lt, Int.not_le, Bool.not_eq_false', beq_iff_eq, bne_iff_ne, decide_eq_true_eq] at hc8
      refine sw_skip ?_
      refine cut_end (()) (Sub.of_eq (by kernel_rfl)) ?_
      exact ⟨by omega, hH⟩
    try simp only [decide_eq_false_iff_not, beq_eq_false_iff_ne, bne_eq_false_iff_eq, ne_eq, Decidable.not_not, Int.not_lt, Int.not_le, Bool.not_eq_false', beq_iff_eq, bne_iff_ne, decide_eq_true_eq] at hg7
    refine gl_ops 7 [(2, .int .i64 at_), (3, .int .i64 of_), (10, .slice A14 (nch (splitB (i : Int) (t : Int) cf dt).length) c15), (12, .slice A25 (nch (splitB (i2 : Int) (t2 : Int) cf2 dt2).length) c26), (14, .pointer (some ⟨xb29, 0, none⟩)), (85, .bool false)] (by kernel_rfl) ?_
    refine gl_done rfl ?_
    refine sw_next ?_
    refine sw_false rfl rfl ?_
    refine sw_skip ?_
    refine cut_end (()) (Sub.of_eq (by kernel_rfl)) ?_
    exact ⟨by omega, hH⟩
  clear hH
  rintro _ w34 ⟨hold, hH⟩
  refine sw_keep [(2, .int .i64 at_), (3, .int .i64 of_), (10, .slice A14 (nch (splitB (i : Int) (t : Int) cf dt).length) c15), (12, .slice A25 (nch (splitB (i2 : Int) (t2 : Int) cf2 dt2).length) c26), (14, .pointer (some ⟨xb29, 0, none⟩))] (by kernel_rfl) ?_
  refine sw_seq ?_
  refine sw_region ?_  -- R11 more.go:23
  refine gl_ops 2 [(3, .int .i64 of_), (10, .slice A14 (nch (splitB (i : Int) (t : Int) cf dt).length) c15), (12, .slice A25 (nch (splitB (i2 : Int) (t2 : Int) cf2 dt2).length) c26), (14, .pointer (some ⟨xb29, 0, none⟩)), (87, .int .i64 (IntKind.i64.wrap (((BitVec.ofInt 64 at_ &&& BitVec.ofInt 64 1023).toNat : Nat) : Int)))] (by kernel_rfl) ?_
  refine gl_cv 87 (.int .i64 ((lo10 at_ : Nat) : Int)) (cv_lo10 _) rfl ?_
  refine gl_ops 1 [(3, .int .i64 of_), (10, .slice A14 (nch (splitB (i : Int) (t : Int) cf dt).length) c15), (12, .slice A25 (nch (splitB (i2 : Int) (t2 : Int) cf2 dt2).length) c26), (14, .pointer (some ⟨xb29, 0, none⟩)), (87, .int .i64 ((lo10 at_ : Nat) : Int)), (88, .slice A14 (nch (splitB (i : Int) (t : Int) cf dt).length) c15)] (by kernel_rfl) ?_
  refine gl_q rfl rfl rfl (rd_len (e := 48) (by kernel_rfl) rfl) ?_
  obtain ⟨k1, hk1, ek1⟩ : ∃ k, k < nch (splitB (i : Int) (t : Int) cf dt).length ∧ (lo10 at_) % (nch (splitB (i : Int) (t : Int) cf dt).length) = k := ⟨_, Nat.mod_lt _ hW1.n1, rfl⟩
  refine gl_q rfl rfl rfl (rd_remN (a := (lo10 at_)) (b := (nch (splitB (i : Int) (t : Int) cf dt).length)) rfl rfl hW1.n1 ek1) ?_
  refine gl_ops 1 [(3, .int .i64 of_), (10, .slice A14 (nch (splitB (i : Int) (t : Int) cf dt).length) c15), (12, .slice A25 (nch (splitB (i2 : Int) (t2 : Int) cf2 dt2).length) c26), (14, .pointer (some ⟨xb29, 0, none⟩)), (15, .int .i64 ((k1 : Nat) : Int))] (by kernel_rfl) ?_
  refine gl_done rfl ?_
  refine sw_next ?_
  refine sw_seq ?_
  refine sw_region ?_  -- R12 more.go:24
  obtain ⟨b36, hb35, hi37⟩ := hH.row_idx 2 rfl k1 (by omega)
  refine gl_ops 3 [(3, .int .i64 of_), (10, .slice A14 (nch (splitB (i : Int) (t : Int) cf dt).length) c15), (12, .slice A25 (nch (splitB (i2 : Int) (t2 : Int) cf2 dt2).length) c26), (14, .pointer (some ⟨xb29, 0, none⟩)), (92, .pointer (some ⟨xb29, 0, none⟩)), (93, .slice A14 (nch (splitB (i : Int) (t : Int) cf dt).length) c15), (94, .int .i64 ((k1 : Nat) : Int))] (by kernel_rfl) ?_
  refine gl_q rfl rfl rfl (rd_idx (e := 48) (m := 5) (by kernel_rfl) (by kernel_rfl) rfl rfl hi37) ?_
  refine gl_q rfl rfl rfl (rd_loadOA (q := 5) 2 (by kernel_rfl) hH rfl rfl hb35 (by kernel_rfl) [.int .i64 i, .int .i64 t, .int .i64 ((k1 : Nat) : Int), .int .i64 ((nch (splitB (i : Int) (t : Int) cf dt).length : Nat) : Int), (vs8.getD k1 undef)] rfl (partsC_all (i : Int) (t : Int) (nch (splitB (i : Int) (t : Int) cf dt).length) vs8 k1 (by rw [hl9]; omega))) ?_
  replace hH : Hp w w34 (w.cell?) [] [.blk b1 24 [.int .i64 i, .int .i64 t, .slice Ac cf.length cc, .slice Ad dt.length cd], .blk b3 24 [.int .i64 i2, .int .i64 t2, .slice Ac2 cf2.length cc2, .slice Ad2 dt2.length cd2], .row (.slice A14 (nch (splitB (i : Int) (t : Int) cf dt).length) c15) 48 5 (nch (splitB (i : Int) (t : Int) cf dt).length) (partsC (i : Int) (t : Int) (nch (splitB (i : Int) (t : Int) cf dt).length) vs8), .grp (partOwn 5 (splitB (i : Int) (t : Int) cf dt) vs8), .row (.slice A25 (nch (splitB (i2 : Int) (t2 : Int) cf2 dt2).length) c26) 48 5 (nch (splitB (i2 : Int) (t2 : Int) cf2 dt2).length) (partsC (i2 : Int) (t2 : Int) (nch (splitB (i2 : Int) (t2 : Int) cf2 dt2).length) vs19), .grp (partOwn 5 (splitB (i2 : Int) (t2 : Int) cf2 dt2) vs19), .grp (ibxO xb29 0 mb30 ⟨none, 0, []⟩ [])] := hH
  replace hH := hH.pick [6, 0, 1, 2, 3, 4, 5] (by kernel_rfl) (os' := [.grp (ibxO xb29 0 mb30 ⟨none, 0, []⟩ []), .blk b1 24 [.int .i64 i, .int .i64 t, .slice Ac cf.length cc, .slice Ad dt.length cd], .blk b3 24 [.int .i64 i2, .int .i64 t2, .slice Ac2 cf2.length cc2, .slice Ad2 dt2.length cd2], .row (.slice A14 (nch (splitB (i : Int) (t : Int) cf dt).length) c15) 48 5 (nch (splitB (i : Int) (t : Int) cf dt).length) (partsC (i : Int) (t : Int) (nch (splitB (i : Int) (t : Int) cf dt).length) vs8), .grp (partOwn 5 (splitB (i : Int) (t : Int) cf dt) vs8), .row (.slice A25 (nch (splitB (i2 : Int) (t2 : Int) cf2 dt2).length) c26) 48 5 (nch (splitB (i2 : Int) (t2 : Int) cf2 dt2).length) (partsC (i2 : Int) (t2 : Int) (nch (splitB (i2 : Int) (t2 : Int) cf2 dt2).length) vs19), .grp (partOwn 5 (splitB (i2 : Int) (t2 : Int) cf2 dt2) vs19)]) (by kernel_rfl)
  replace hH : Hp w w34 (w.cell?) [] ([.grp (ibxO xb29 0 mb30 ⟨none, 0, []⟩ [])] ++ [.blk b1 24 [.int .i64 i, .int .i64 t, .slice Ac cf.length cc, .slice Ad dt.length cd], .blk b3 24 [.int .i64 i2, .int .i64 t2, .slice Ac2 cf2.length cc2, .slice Ad2 dt2.length cd2], .row (.slice A14 (nch (splitB (i : Int) (t : Int) cf dt).length) c15) 48 5 (nch (splitB (i : Int) (t : Int) cf dt).length) (partsC (i : Int) (t : Int) (nch (splitB (i : Int) (t : Int) cf dt).length) vs8), .grp (partOwn 5 (splitB (i : Int) (t : Int) cf dt) vs8), .row (.slice A25 (nch (splitB (i2 : Int) (t2 : Int) cf2 dt2).length) c26) 48 5 (nch (splitB (i2 : Int) (t2 : Int) cf2 dt2).length) (partsC (i2 : Int) (t2 : Int) (nch (splitB (i2 : Int) (t2 : Int) cf2 dt2).length) vs19), .grp (partOwn 5 (splitB (i2 : Int) (t2 : Int) cf2 dt2) vs19)]) := hH
  refine gl_st (st_call rfl rfl rfl (by kernel_rfl) rfl (Put_ct _ _ _ ⟨none, 0, []⟩ _ (partP (i : Int) (t : Int) (splitB (i : Int) (t : Int) cf dt) k1) _ _ hH.mine (part_off hH 3 rfl k1 (by rw [hl9]; omega)) (hW1.i64 k1 (by omega)) fit_new) ?_)
  rintro _ w48 ⟨nv38, nb39, l40, v41, v42, R43, rfl, hR44, hf45, hF49⟩
  replace hH := hH.turns hF49; clear hF49
  replace hH : Hp w w48 (w.cell?) [] [.blk b1 24 [.int .i64 i, .int .i64 t, .slice Ac cf.length cc, .slice Ad dt.length cd], .blk b3 24 [.int .i64 i2, .int .i64 t2, .slice Ac2 cf2.length cc2, .slice Ad2 dt2.length cd2], .row (.slice A14 (nch (splitB (i : Int) (t : Int) cf dt).length) c15) 48 5 (nch (splitB (i : Int) (t : Int) cf dt).length) (partsC (i : Int) (t : Int) (nch (splitB (i : Int) (t : Int) cf dt).length) vs8), .grp (partOwn 5 (splitB (i : Int) (t : Int) cf dt) vs8), .row (.slice A25 (nch (splitB (i2 : Int) (t2 : Int) cf2 dt2).length) c26) 48 5 (nch (splitB (i2 : Int) (t2 : Int) cf2 dt2).length) (partsC (i2 : Int) (t2 : Int) (nch (splitB (i2 : Int) (t2 : Int) cf2 dt2).length) vs19), .grp (partOwn 5 (splitB (i2 : Int) (t2 : Int) cf2 dt2) vs19), .grp (ibxO xb29 nb39 mb30 R43.1 l40), .row v41 5 1 R43.2.1.conf.length (bv R43.2.1.conf), .row v42 5 1 R43.2.1.data.length (bv R43.2.1.data)] := hH
  obtain ⟨hnew, herr, his⟩ := first_facts hW1 k1 hk1 hR44
  obtain ⟨A50, c51, rfl, hl52, hm53⟩ := hH.row_form 7 rfl
  obtain ⟨A54, c55, rfl, hl56, hm57⟩ := hH.row_form 8 rfl
  refine gl_ops 4 [(3, .int .i64 of_), (10, .slice A14 (nch (splitB (i : Int) (t : Int) cf dt).length) c15), (12, .slice A25 (nch (splitB (i2 : Int) (t2 : Int) cf2 dt2).length) c26), (14, .pointer (some ⟨xb29, 0, none⟩)), (98, .agg #[.int .i64 R43.2.1.idx, .int .i64 R43.2.1.term, .slice A50 R43.2.1.conf.length c51, .slice A54 R43.2.1.data.length c55]), (99, .bool R43.2.2.1), (100, errV R43.2.2.2)] (by kernel_rfl) ?_
  refine gl_cv 100 (.nilIface) (by rw [herr]; rfl) rfl ?_
  refine gl_st (st_allocH rfl rfl rfl (cs := [.int .i64 0, .int .i64 0, .slice none 0 0, .slice none 0 0]) (by kernel_rfl) hH ?_)
  clear hH; intro b58 w59 hH
  refine gl_st (st_storeKA (vs := [.int .i64 R43.2.1.idx, .int .i64 R43.2.1.term, .slice A50 R43.2.1.conf.length c51, .slice A54 R43.2.1.data.length c55]) 9 rfl rfl rfl hH rfl rfl (by kernel_rfl) (by kernel_rfl) rfl (by simp) [.int .i64 R43.2.1.idx, .int .i64 R43.2.1.term, .slice A50 R43.2.1.conf.length c51, .slice A54 R43.2.1.data.length c55] rfl ?_)
  clear hH; intro w60 hH
  refine gl_ops 2 [(3, .int .i64 of_), (10, .slice A14 (nch (splitB (i : Int) (t : Int) cf dt).length) c15), (12, .slice A25 (nch (splitB (i2 : Int) (t2 : Int) cf2 dt2).length) c26), (14, .pointer (some ⟨xb29, 0, none⟩)), (17, .bool R43.2.2.1), (18, .nilIface)] (by kernel_rfl) ?_
  refine gl_done rfl ?_
  refine sw_next ?_
  refine sw_seq ?_
  refine sw_region ?_  -- R13 more.go:25
  refine gl_ops 1 [(3, .int .i64 of_), (10, .slice A14 (nch (splitB (i : Int) (t : Int) cf dt).length) c15), (12, .slice A25 (nch (splitB (i2 : Int) (t2 : Int) cf2 dt2).length) c26), (14, .pointer (some ⟨xb29, 0, none⟩)), (17, .bool R43.2.2.1), (18, .nilIface), (102, .pointer (some ⟨xb29, 0, none⟩))] (by kernel_rfl) ?_
  replace hH : Hp w w60 (w.cell?) [] [.blk b1 24 [.int .i64 i, .int .i64 t, .slice Ac cf.length cc, .slice Ad dt.length cd], .blk b3 24 [.int .i64 i2, .int .i64 t2, .slice Ac2 cf2.length cc2, .slice Ad2 dt2.length cd2], .row (.slice A14 (nch (splitB (i : Int) (t : Int) cf dt).length) c15) 48 5 (nch (splitB (i : Int) (t : Int) cf dt).length) (partsC (i : Int) (t : Int) (nch (splitB (i : Int) (t : Int) cf dt).length) vs8), .grp (partOwn 5 (splitB (i : Int) (t : Int) cf dt) vs8), .row (.slice A25 (nch (splitB (i2 : Int) (t2 : Int) cf2 dt2).length) c26) 48 5 (nch (splitB (i2 : Int) (t2 : Int) cf2 dt2).length) (partsC (i2 : Int) (t2 : Int) (nch (splitB (i2 : Int) (t2 : Int) cf2 dt2).length) vs19), .grp (partOwn 5 (splitB (i2 : Int) (t2 : Int) cf2 dt2) vs19), .grp (ibxO xb29 nb39 mb30 R43.1 l40), .row (.slice A50 R43.2.1.conf.length c51) 5 1 R43.2.1.conf.length (bv R43.2.1.conf), .row (.slice A54 R43.2.1.data.length c55) 5 1 R43.2.1.data.length (bv R43.2.1.data), .blk b58 24 [.int .i64 R43.2.1.idx, .int .i64 R43.2.1.term, .slice A50 R43.2.1.conf.length c51, .slice A54 R43.2.1.data.length c55]] := hH
  replace hH := hH.pick [6, 0, 1, 2, 3, 4, 5, 7, 8, 9] (by kernel_rfl) (os' := [.grp (ibxO xb29 nb39 mb30 R43.1 l40), .blk b1 24 [.int .i64 i, .int .i64 t, .slice Ac cf.length cc, .slice Ad dt.length cd], .blk b3 24 [.int .i64 i2, .int .i64 t2, .slice Ac2 cf2.length cc2, .slice Ad2 dt2.length cd2], .row (.slice A14 (nch (splitB (i : Int) (t : Int) cf dt).length) c15) 48 5 (nch (splitB (i : Int) (t : Int) cf dt).length) (partsC (i : Int) (t : Int) (nch (splitB (i : Int) (t : Int) cf dt).length) vs8), .grp (partOwn 5 (splitB (i : Int) (t : Int) cf dt) vs8), .row (.slice A25 (nch (splitB (i2 : Int) (t2 : Int) cf2 dt2).length) c26) 48 5 (nch (splitB (i2 : Int) (t2 : Int) cf2 dt2).length) (partsC (i2 : Int) (t2 : Int) (nch (splitB (i2 : Int) (t2 : Int) cf2 dt2).length) vs19), .grp (partOwn 5 (splitB (i2 : Int) (t2 : Int) cf2 dt2) vs19), .row (.slice A50 R43.2.1.conf.length c51) 5 1 R43.2.1.conf.length (bv R43.2.1.conf), .row (.slice A54 R43.2.1.data.length c55) 5 1 R43.2.1.data.length (bv R43.2.1.data), .blk b58 24 [.int .i64 R43.2.1.idx, .int .i64 R43.2.1.term, .slice A50 R43.2.1.conf.length c51, .slice A54 R43.2.1.data.length c55]]) (by kernel_rfl)
  replace hH : Hp w w60 (w.cell?) [] ([.grp (ibxO xb29 nb39 mb30 R43.1 l40)] ++ [.blk b1 24 [.int .i64 i, .int .i64 t, .slice Ac cf.length cc, .slice Ad dt.length cd], .blk b3 24 [.int .i64 i2, .int .i64 t2, .slice Ac2 cf2.length cc2, .slice Ad2 dt2.length cd2], .row (.slice A14 (nch (splitB (i : Int) (t : Int) cf dt).length) c15) 48 5 (nch (splitB (i : Int) (t : Int) cf dt).length) (partsC (i : Int) (t : Int) (nch (splitB (i : Int) (t : Int) cf dt).length) vs8), .grp (partOwn 5 (splitB (i : Int) (t : Int) cf dt) vs8), .row (.slice A25 (nch (splitB (i2 : Int) (t2 : Int) cf2 dt2).length) c26) 48 5 (nch (splitB (i2 : Int) (t2 : Int) cf2 dt2).length) (partsC (i2 : Int) (t2 : Int) (nch (splitB (i2 : Int) (t2 : Int) cf2 dt2).length) vs19), .grp (partOwn 5 (splitB (i2 : Int) (t2 : Int) cf2 dt2) vs19), .row (.slice A50 R43.2.1.conf.length c51) 5 1 R43.2.1.conf.length (bv R43.2.1.conf), .row (.slice A54 R43.2.1.data.length c55) 5 1 R43.2.1.data.length (bv R43.2.1.data), .blk b58 24 [.int .i64 R43.2.1.idx, .int .i64 R43.2.1.term, .slice A50 R43.2.1.conf.length c51, .slice A54 R43.2.1.data.length c55]]) := hH
  refine gl_st (st_call rfl rfl rfl (by kernel_rfl) rfl (Want_ct _ _ _ R43.1 _ _ hH.mine hf45) ?_)
  rintro _ w61 ⟨rfl, hF62⟩
  replace hH := hH.turns hF62; clear hF62
  replace hH : Hp w w61 (w.cell?) [] [.blk b1 24 [.int .i64 i, .int .i64 t, .slice Ac cf.length cc, .slice Ad dt.length cd], .blk b3 24 [.int .i64 i2, .int .i64 t2, .slice Ac2 cf2.length cc2, .slice Ad2 dt2.length cd2], .row (.slice A14 (nch (splitB (i : Int) (t : Int) cf dt).length) c15) 48 5 (nch (splitB (i : Int) (t : Int) cf dt).length) (partsC (i : Int) (t : Int) (nch (splitB (i : Int) (t : Int) cf dt).length) vs8), .grp (partOwn 5 (splitB (i : Int) (t : Int) cf dt) vs8), .row (.slice A25 (nch (splitB (i2 : Int) (t2 : Int) cf2 dt2).length) c26) 48 5 (nch (splitB (i2 : Int) (t2 : Int) cf2 dt2).length) (partsC (i2 : Int) (t2 : Int) (nch (splitB (i2 : Int) (t2 : Int) cf2 dt2).length) vs19), .grp (partOwn 5 (splitB (i2 : Int) (t2 : Int) cf2 dt2) vs19), .row (.slice A50 R43.2.1.conf.length c51) 5 1 R43.2.1.conf.length (bv R43.2.1.conf), .row (.slice A54 R43.2.1.data.length c55) 5 1 R43.2.1.data.length (bv R43.2.1.data), .blk b58 24 [.int .i64 R43.2.1.idx, .int .i64 R43.2.1.term, .slice A50 R43.2.1.conf.length c51, .slice A54 R43.2.1.data.length c55], .grp (ibxO xb29 nb39 mb30 R43.1 l40)] := hH
  refine gl_ops 7 [(3, .int .i64 of_), (10, .slice A14 (nch (splitB (i : Int) (t : Int) cf dt).length) c15), (12, .slice A25 (nch (splitB (i2 : Int) (t2 : Int) cf2 dt2).length) c26), (14, .pointer (some ⟨xb29, 0, none⟩)), (17, .bool R43.2.2.1), (18, .nilIface), (19, .int .i64 ((wantI R43.1).1)), (20, .int .i64 ((wantI R43.1).2.1)), (21, .int .i64 ((wantI R43.1).2.2))] (by kernel_rfl) ?_
  refine gl_done rfl ?_
  refine sw_next ?_
  refine sw_seq ?_
  refine sw_region ?_  -- R14 more.go:26
  refine gl_ops 4 [(10, .slice A14 (nch (splitB (i : Int) (t : Int) cf dt).length) c15), (12, .slice A25 (nch (splitB (i2 : Int) (t2 : Int) cf2 dt2).length) c26), (14, .pointer (some ⟨xb29, 0, none⟩)), (17, .bool R43.2.2.1), (18, .nilIface), (19, .int .i64 ((wantI R43.1).1)), (20, .int .i64 ((wantI R43.1).2.1)), (21, .int .i64 ((wantI R43.1).2.2)), (108, .pointer (some ⟨xb29, 0, none⟩)), (109, .slice A25 (nch (splitB (i2 : Int) (t2 : Int) cf2 dt2).length) c26), (111, .int .i64 (IntKind.i64.wrap (((BitVec.ofInt 64 of_ &&& BitVec.ofInt 64 1023).toNat : Nat) : Int)))] (by kernel_rfl) ?_
  refine gl_cv 111 (.int .i64 ((lo10 of_ : Nat) : Int)) (cv_lo10 _) rfl ?_
  refine gl_ops 1 [(10, .slice A14 (nch (splitB (i : Int) (t : Int) cf dt).length) c15), (14, .pointer (some ⟨xb29, 0, none⟩)), (17, .bool R43.2.2.1), (18, .nilIface), (19, .int .i64 ((wantI R43.1).1)), (20, .int .i64 ((wantI R43.1).2.1)), (21, .int .i64 ((wantI R43.1).2.2)), (108, .pointer (some ⟨xb29, 0, none⟩)), (109, .slice A25 (nch (splitB (i2 : Int) (t2 : Int) cf2 dt2).length) c26), (111, .int .i64 ((lo10 of_ : Nat) : Int)), (112, .slice A25 (nch (splitB (i2 : Int) (t2 : Int) cf2 dt2).length) c26)] (by kernel_rfl) ?_
  refine gl_q rfl rfl rfl (rd_len (e := 48) (by kernel_rfl) rfl) ?_
  obtain ⟨k2, hk2, ek2⟩ : ∃ k, k < nch (splitB (i2 : Int) (t2 : Int) cf2 dt2).length ∧ (lo10 of_) % (nch (splitB (i2 : Int) (t2 : Int) cf2 dt2).length) = k := ⟨_, Nat.mod_lt _ hW2.n1, rfl⟩
  refine gl_q rfl rfl rfl (rd_remN (a := (lo10 of_)) (b := (nch (splitB (i2 : Int) (t2 : Int) cf2 dt2).length)) rfl rfl hW2.n1 ek2) ?_
  obtain ⟨b64, hb63, hi65⟩ := hH.row_idx 4 rfl k2 (by omega)
  refine gl_q rfl rfl rfl (rd_idx (e := 48) (m := 5) (by kernel_rfl) (by kernel_rfl) rfl rfl hi65) ?_
  refine gl_q rfl rfl rfl (rd_loadOA (q := 5) 4 (by kernel_rfl) hH rfl rfl hb63 (by kernel_rfl) [.int .i64 i2, .int .i64 t2, .int .i64 ((k2 : Nat) : Int), .int .i64 ((nch (splitB (i2 : Int) (t2 : Int) cf2 dt2).length : Nat) : Int), (vs19.getD k2 undef)] rfl (partsC_all (i2 : Int) (t2 : Int) (nch (splitB (i2 : Int) (t2 : Int) cf2 dt2).length) vs19 k2 (by rw [hl20]; omega))) ?_
  replace hH : Hp w w61 (w.cell?) [] [.blk b1 24 [.int .i64 i, .int .i64 t, .slice Ac cf.length cc, .slice Ad dt.length cd], .blk b3 24 [.int .i64 i2, .int .i64 t2, .slice Ac2 cf2.length cc2, .slice Ad2 dt2.length cd2], .row (.slice A14 (nch (splitB (i : Int) (t : Int) cf dt).length) c15) 48 5 (nch (splitB (i : Int) (t : Int) cf dt).length) (partsC (i : Int) (t : Int) (nch (splitB (i : Int) (t : Int) cf dt).length) vs8), .grp (partOwn 5 (splitB (i : Int) (t : Int) cf dt) vs8), .row (.slice A25 (nch (splitB (i2 : Int) (t2 : Int) cf2 dt2).length) c26) 48 5 (nch (splitB (i2 : Int) (t2 : Int) cf2 dt2).length) (partsC (i2 : Int) (t2 : Int) (nch (splitB (i2 : Int) (t2 : Int) cf2 dt2).length) vs19), .grp (partOwn 5 (splitB (i2 : Int) (t2 : Int) cf2 dt2) vs19), .row (.slice A50 R43.2.1.conf.length c51) 5 1 R43.2.1.conf.length (bv R43.2.1.conf), .row (.slice A54 R43.2.1.data.length c55) 5 1 R43.2.1.data.length (bv R43.2.1.data), .blk b58 24 [.int .i64 R43.2.1.idx, .int .i64 R43.2.1.term, .slice A50 R43.2.1.conf.length c51, .slice A54 R43.2.1.data.length c55], .grp (ibxO xb29 nb39 mb30 R43.1 l40)] := hH
  replace hH := hH.pick [9, 0, 1, 2, 3, 4, 5, 6, 7, 8] (by kernel_rfl) (os' := [.grp (ibxO xb29 nb39 mb30 R43.1 l40), .blk b1 24 [.int .i64 i, .int .i64 t, .slice Ac cf.length cc, .slice Ad dt.length cd], .blk b3 24 [.int .i64 i2, .int .i64 t2, .slice Ac2 cf2.length cc2, .slice Ad2 dt2.length cd2], .row (.slice A14 (nch (splitB (i : Int) (t : Int) cf dt).length) c15) 48 5 (nch (splitB (i : Int) (t : Int) cf dt).length) (partsC (i : Int) (t : Int) (nch (splitB (i : Int) (t : Int) cf dt).length) vs8), .grp (partOwn 5 (splitB (i : Int) (t : Int) cf dt) vs8), .row (.slice A25 (nch (splitB (i2 : Int) (t2 : Int) cf2 dt2).length) c26) 48 5 (nch (splitB (i2 : Int) (t2 : Int) cf2 dt2).length) (partsC (i2 : Int) (t2 : Int) (nch (splitB (i2 : Int) (t2 : Int) cf2 dt2).length) vs19), .grp (partOwn 5 (splitB (i2 : Int) (t2 : Int) cf2 dt2) vs19), .row (.slice A50 R43.2.1.conf.length c51) 5 1 R43.2.1.conf.length (bv R43.2.1.conf), .row (.slice A54 R43.2.1.data.length c55) 5 1 R43.2.1.data.length (bv R43.2.1.data), .blk b58 24 [.int .i64 R43.2.1.idx, .int .i64 R43.2.1.term, .slice A50 R43.2.1.conf.length c51, .slice A54 R43.2.1.data.length c55]]) (by kernel_rfl)
  replace hH : Hp w w61 (w.cell?) [] ([.grp (ibxO xb29 nb39 mb30 R43.1 l40)] ++ [.blk b1 24 [.int .i64 i, .int .i64 t, .slice Ac cf.length cc, .slice Ad dt.length cd], .blk b3 24 [.int .i64 i2, .int .i64 t2, .slice Ac2 cf2.length cc2, .slice Ad2 dt2.length cd2], .row (.slice A14 (nch (splitB (i : Int) (t : Int) cf dt).length) c15) 48 5 (nch (splitB (i : Int) (t : Int) cf dt).length) (partsC (i : Int) (t : Int) (nch (splitB (i : Int) (t : Int) cf dt).length) vs8), .grp (partOwn 5 (splitB (i : Int) (t : Int) cf dt) vs8), .row (.slice A25 (nch (splitB (i2 : Int) (t2 : Int) cf2 dt2).length) c26) 48 5 (nch (splitB (i2 : Int) (t2 : Int) cf2 dt2).length) (partsC (i2 : Int) (t2 : Int) (nch (splitB (i2 : Int) (t2 : Int) cf2 dt2).length) vs19), .grp (partOwn 5 (splitB (i2 : Int) (t2 : Int) cf2 dt2) vs19), .row (.slice A50 R43.2.1.conf.length c51) 5 1 R43.2.1.conf.length (bv R43.2.1.conf), .row (.slice A54 R43.2.1.data.length c55) 5 1 R43.2.1.data.length (bv R43.2.1.data), .blk b58 24 [.int .i64 R43.2.1.idx, .int .i64 R43.2.1.term, .slice A50 R43.2.1.conf.length c51, .slice A54 R43.2.1.data.length c55]]) := hH
  refine gl_st (st_call rfl rfl rfl (by kernel_rfl) rfl (Put_ct _ _ _ R43.1 _ (partP (i2 : Int) (t2 : Int) (splitB (i2 : Int) (t2 : Int) cf2 dt2) k2) _ _ hH.mine (part_off hH 5 rfl k2 (by rw [hl20]; omega)) (hW2.i64 k2 (by omega)) hf45) ?_)
  rintro _ w76 ⟨nv66, nb67, l68, v69, v70, R71, rfl, hR72, hf73, hF77⟩
  replace hH := hH.turns hF77; clear hF77
  replace hH : Hp w w76 (w.cell?) [] [.blk b1 24 [.int .i64 i, .int .i64 t, .slice Ac cf.length cc, .slice Ad dt.length cd], .blk b3 24 [.int .i64 i2, .int .i64 t2, .slice Ac2 cf2.length cc2, .slice Ad2 dt2.length cd2], .row (.slice A14 (nch (splitB (i : Int) (t : Int) cf dt).length) c15) 48 5 (nch (splitB (i : Int) (t : Int) cf dt).length) (partsC (i : Int) (t : Int) (nch (splitB (i : Int) (t : Int) cf dt).length) vs8), .grp (partOwn 5 (splitB (i : Int) (t : Int) cf dt) vs8), .row (.slice A25 (nch (splitB (i2 : Int) (t2 : Int) cf2 dt2).length) c26) 48 5 (nch (splitB (i2 : Int) (t2 : Int) cf2 dt2).length) (partsC (i2 : Int) (t2 : Int) (nch (splitB (i2 : Int) (t2 : Int) cf2 dt2).length) vs19), .grp (partOwn 5 (splitB (i2 : Int) (t2 : Int) cf2 dt2) vs19), .row (.slice A50 R43.2.1.conf.length c51) 5 1 R43.2.1.conf.length (bv R43.2.1.conf), .row (.slice A54 R43.2.1.data.length c55) 5 1 R43.2.1.data.length (bv R43.2.1.data), .blk b58 24 [.int .i64 R43.2.1.idx, .int .i64 R43.2.1.term, .slice A50 R43.2.1.conf.length c51, .slice A54 R43.2.1.data.length c55], .grp (ibxO xb29 nb67 mb30 R71.1 l68), .row v69 5 1 R71.2.1.conf.length (bv R71.2.1.conf), .row v70 5 1 R71.2.1.data.length (bv R71.2.1.data)] := hH
  obtain rfl : R71 = (R43.1, ⟨0, 0, ([] : List UInt8), ([] : List UInt8)⟩, false, 91) := by rw [hR72]; exact older_put hnew hW2 hold k2 hk2 _
  replace hH : Hp w w76 (w.cell?) [] [.blk b1 24 [.int .i64 i, .int .i64 t, .slice Ac cf.length cc, .slice Ad dt.length cd], .blk b3 24 [.int .i64 i2, .int .i64 t2, .slice Ac2 cf2.length cc2, .slice Ad2 dt2.length cd2], .row (.slice A14 (nch (splitB (i : Int) (t : Int) cf dt).length) c15) 48 5 (nch (splitB (i : Int) (t : Int) cf dt).length) (partsC (i : Int) (t : Int) (nch (splitB (i : Int) (t : Int) cf dt).length) vs8), .grp (partOwn 5 (splitB (i : Int) (t : Int) cf dt) vs8), .row (.slice A25 (nch (splitB (i2 : Int) (t2 : Int) cf2 dt2).length) c26) 48 5 (nch (splitB (i2 : Int) (t2 : Int) cf2 dt2).length) (partsC (i2 : Int) (t2 : Int) (nch (splitB (i2 : Int) (t2 : Int) cf2 dt2).length) vs19), .grp (partOwn 5 (splitB (i2 : Int) (t2 : Int) cf2 dt2) vs19), .row (.slice A50 R43.2.1.conf.length c51) 5 1 R43.2.1.conf.length (bv R43.2.1.conf), .row (.slice A54 R43.2.1.data.length c55) 5 1 R43.2.1.data.length (bv R43.2.1.data), .blk b58 24 [.int .i64 R43.2.1.idx, .int .i64 R43.2.1.term, .slice A50 R43.2.1.conf.length c51, .slice A54 R43.2.1.data.length c55], .grp (ibxO xb29 nb67 mb30 R43.1 l68), .row v69 5 1 (([] : List UInt8).length) (bv ([] : List UInt8)), .row v70 5 1 (([] : List UInt8).length) (bv ([] : List UInt8))] := hH
  obtain ⟨A78, c79, rfl, hl80, hm81⟩ := hH.row_form 10 rfl
  obtain ⟨A82, c83, rfl, hl84, hm85⟩ := hH.row_form 11 rfl
  refine gl_ops 4 [(10, .slice A14 (nch (splitB (i : Int) (t : Int) cf dt).length) c15), (14, .pointer (some ⟨xb29, 0, none⟩)), (17, .bool R43.2.2.1), (18, .nilIface), (19, .int .i64 ((wantI R43.1).1)), (20, .int .i64 ((wantI R43.1).2.1)), (21, .int .i64 ((wantI R43.1).2.2)), (118, .agg #[.int .i64 0, .int .i64 0, .slice A78 (([] : List UInt8).length) c79, .slice A82 (([] : List UInt8).length) c83]), (119, .bool false), (120, errV 91)] (by kernel_rfl) ?_
  refine gl_st (st_allocH rfl rfl rfl (cs := [.int .i64 0, .int .i64 0, .slice none 0 0, .slice none 0 0]) (by kernel_rfl) hH ?_)
  clear hH; intro b86 w87 hH
  refine gl_st (st_storeKA (vs := [.int .i64 0, .int .i64 0, .slice A78 (([] : List UInt8).length) c79, .slice A82 (([] : List UInt8).length) c83]) 12 rfl rfl rfl hH rfl rfl (by kernel_rfl) (by kernel_rfl) rfl (by simp) [.int .i64 0, .int .i64 0, .slice A78 (([] : List UInt8).length) c79, .slice A82 (([] : List UInt8).length) c83] rfl ?_)
  clear hH; intro w88 hH
  refine gl_ops 2 [(10, .slice A14 (nch (splitB (i : Int) (t : Int) cf dt).length) c15), (14, .pointer (some ⟨xb29, 0, none⟩)), (17, .bool R43.2.2.1), (18, .nilIface), (19, .int .i64 ((wantI R43.1).1)), (20, .int .i64 ((wantI R43.1).2.1)), (21, .int .i64 ((wantI R43.1).2.2)), (23, .bool false), (24, errV 91)] (by kernel_rfl) ?_
  refine gl_done rfl ?_
  refine sw_next ?_
  refine sw_seq ?_
  refine sw_region ?_  -- R15 more.go:27
  refine gl_ops 1 [(10, .slice A14 (nch (splitB (i : Int) (t : Int) cf dt).length) c15), (17, .bool R43.2.2.1), (18, .nilIface), (19, .int .i64 ((wantI R43.1).1)), (20, .int .i64 ((wantI R43.1).2.1)), (21, .int .i64 ((wantI R43.1).2.2)), (23, .bool false), (24, errV 91), (122, .pointer (some ⟨xb29, 0, none⟩))] (by kernel_rfl) ?_
  replace hH : Hp w w88 (w.cell?) [] [.blk b1 24 [.int .i64 i, .int .i64 t, .slice Ac cf.length cc, .slice Ad dt.length cd], .blk b3 24 [.int .i64 i2, .int .i64 t2, .slice Ac2 cf2.length cc2, .slice Ad2 dt2.length cd2], .row (.slice A14 (nch (splitB (i : Int) (t : Int) cf dt).length) c15) 48 5 (nch (splitB (i : Int) (t : Int) cf dt).length) (partsC (i : Int) (t : Int) (nch (splitB (i : Int) (t : Int) cf dt).length) vs8), .grp (partOwn 5 (splitB (i : Int) (t : Int) cf dt) vs8), .row (.slice A25 (nch (splitB (i2 : Int) (t2 : Int) cf2 dt2).length) c26) 48 5 (nch (splitB (i2 : Int) (t2 : Int) cf2 dt2).length) (partsC (i2 : Int) (t2 : Int) (nch (splitB (i2 : Int) (t2 : Int) cf2 dt2).length) vs19), .grp (partOwn 5 (splitB (i2 : Int) (t2 : Int) cf2 dt2) vs19), .row (.slice A50 R43.2.1.conf.length c51) 5 1 R43.2.1.conf.length (bv R43.2.1.conf), .row (.slice A54 R43.2.1.data.length c55) 5 1 R43.2.1.data.length (bv R43.2.1.data), .blk b58 24 [.int .i64 R43.2.1.idx, .int .i64 R43.2.1.term, .slice A50 R43.2.1.conf.length c51, .slice A54 R43.2.1.data.length c55], .grp (ibxO xb29 nb67 mb30 R43.1 l68), .row (.slice A78 (([] : List UInt8).length) c79) 5 1 (([] : List UInt8).length) (bv ([] : List UInt8)), .row (.slice A82 (([] : List UInt8).length) c83) 5 1 (([] : List UInt8).length) (bv ([] : List UInt8)), .blk b86 24 [.int .i64 0, .int .i64 0, .slice A78 (([] : List UInt8).length) c79, .slice A82 (([] : List UInt8).length) c83]] := hH
  replace hH := hH.pick [9, 0, 1, 2, 3, 4, 5, 6, 7, 8, 10, 11, 12] (by kernel_rfl) (os' := [.grp (ibxO xb29 nb67 mb30 R43.1 l68), .blk b1 24 [.int .i64 i, .int .i64 t, .slice Ac cf.length cc, .slice Ad dt.length cd], .blk b3 24 [.int .i64 i2, .int .i64 t2, .slice Ac2 cf2.length cc2, .slice Ad2 dt2.length cd2], .row (.slice A14 (nch (splitB (i : Int) (t : Int) cf dt).length) c15) 48 5 (nch (splitB (i : Int) (t : Int) cf dt).length) (partsC (i : Int) (t : Int) (nch (splitB (i : Int) (t : Int) cf dt).length) vs8), .grp (partOwn 5 (splitB (i : Int) (t : Int) cf dt) vs8), .row (.slice A25 (nch (splitB (i2 : Int) (t2 : Int) cf2 dt2).length) c26) 48 5 (nch (splitB (i2 : Int) (t2 : Int) cf2 dt2).length) (partsC (i2 : Int) (t2 : Int) (nch (splitB (i2 : Int) (t2 : Int) cf2 dt2).length) vs19), .grp (partOwn 5 (splitB (i2 : Int) (t2 : Int) cf2 dt2) vs19), .row (.slice A50 R43.2.1.conf.length c51) 5 1 R43.2.1.conf.length (bv R43.2.1.conf), .row (.slice A54 R43.2.1.data.length c55) 5 1 R43.2.1.data.length (bv R43.2.1.data), .blk b58 24 [.int .i64 R43.2.1.idx, .int .i64 R43.2.1.term, .slice A50 R43.2.1.conf.length c51, .slice A54 R43.2.1.data.length c55], .row (.slice A78 (([] : List UInt8).length) c79) 5 1 (([] : List UInt8).length) (bv ([] : List UInt8)), .row (.slice A82 (([] : List UInt8).length) c83) 5 1 (([] : List UInt8).length) (bv ([] : List UInt8)), .blk b86 24 [.int .i64 0, .int .i64 0, .slice A78 (([] : List UInt8).length) c79, .slice A82 (([] : List UInt8).length) c83]]) (by kernel_rfl)
  replace hH : Hp w w88 (w.cell?) [] ([.grp (ibxO xb29 nb67 mb30 R43.1 l68)] ++ [.blk b1 24 [.int .i64 i, .int .i64 t, .slice Ac cf.length cc, .slice Ad dt.length cd], .blk b3 24 [.int .i64 i2, .int .i64 t2, .slice Ac2 cf2.length cc2, .slice Ad2 dt2.length cd2], .row (.slice A14 (nch (splitB (i : Int) (t : Int) cf dt).length) c15) 48 5 (nch (splitB (i : Int) (t : Int) cf dt).length) (partsC (i : Int) (t : Int) (nch (splitB (i : Int) (t : Int) cf dt).length) vs8), .grp (partOwn 5 (splitB (i : Int) (t : Int) cf dt) vs8), .row (.slice A25 (nch (splitB (i2 : Int) (t2 : Int) cf2 dt2).length) c26) 48 5 (nch (splitB (i2 : Int) (t2 : Int) cf2 dt2).length) (partsC (i2 : Int) (t2 : Int) (nch (splitB (i2 : Int) (t2 : Int) cf2 dt2).length) vs19), .grp (partOwn 5 (splitB (i2 : Int) (t2 : Int) cf2 dt2) vs19), .row (.slice A50 R43.2.1.conf.length c51) 5 1 R43.2.1.conf.length (bv R43.2.1.conf), .row (.slice A54 R43.2.1.data.length c55) 5 1 R43.2.1.data.length (bv R43.2.1.data), .blk b58 24 [.int .i64 R43.2.1.idx, .int .i64 R43.2.1.term, .slice A50 R43.2.1.conf.length c51, .slice A54 R43.2.1.data.length c55], .row (.slice A78 (([] : List UInt8).length) c79) 5 1 (([] : List UInt8).length) (bv ([] : List UInt8)), .row (.slice A82 (([] : List UInt8).length) c83) 5 1 (([] : List UInt8).length) (bv ([] : List UInt8)), .blk b86 24 [.int .i64 0, .int .i64 0, .slice A78 (([] : List UInt8).length) c79, .slice A82 (([] : List UInt8).length) c83]]) := hH
  refine gl_st (st_call rfl rfl rfl (by kernel_rfl) rfl (Want_ct _ _ _ R43.1 _ _ hH.mine hf73) ?_)
  rintro _ w89 ⟨rfl, hF90⟩
  replace hH := hH.turns hF90; clear hF90
  replace hH : Hp w w89 (w.cell?) [] [.blk b1 24 [.int .i64 i, .int .i64 t, .slice Ac cf.length cc, .slice Ad dt.length cd], .blk b3 24 [.int .i64 i2, .int .i64 t2, .slice Ac2 cf2.length cc2, .slice Ad2 dt2.length cd2], .row (.slice A14 (nch (splitB (i : Int) (t : Int) cf dt).length) c15) 48 5 (nch (splitB (i : Int) (t : Int) cf dt).length) (partsC (i : Int) (t : Int) (nch (splitB (i : Int) (t : Int) cf dt).length) vs8), .grp (partOwn 5 (splitB (i : Int) (t : Int) cf dt) vs8), .row (.slice A25 (nch (splitB (i2 : Int) (t2 : Int) cf2 dt2).length) c26) 48 5 (nch (splitB (i2 : Int) (t2 : Int) cf2 dt2).length) (partsC (i2 : Int) (t2 : Int) (nch (splitB (i2 : Int) (t2 : Int) cf2 dt2).length) vs19), .grp (partOwn 5 (splitB (i2 : Int) (t2 : Int) cf2 dt2) vs19), .row (.slice A50 R43.2.1.conf.length c51) 5 1 R43.2.1.conf.length (bv R43.2.1.conf), .row (.slice A54 R43.2.1.data.length c55) 5 1 R43.2.1.data.length (bv R43.2.1.data), .blk b58 24 [.int .i64 R43.2.1.idx, .int .i64 R43.2.1.term, .slice A50 R43.2.1.conf.length c51, .slice A54 R43.2.1.data.length c55], .row (.slice A78 (([] : List UInt8).length) c79) 5 1 (([] : List UInt8).length) (bv ([] : List UInt8)), .row (.slice A82 (([] : List UInt8).length) c83) 5 1 (([] : List UInt8).length) (bv ([] : List UInt8)), .blk b86 24 [.int .i64 0, .int .i64 0, .slice A78 (([] : List UInt8).length) c79, .slice A82 (([] : List UInt8).length) c83], .grp (ibxO xb29 nb67 mb30 R43.1 l68)] := hH
  refine gl_ops 7 [(10, .slice A14 (nch (splitB (i : Int) (t : Int) cf dt).length) c15), (17, .bool R43.2.2.1), (18, .nilIface), (19, .int .i64 ((wantI R43.1).1)), (20, .int .i64 ((wantI R43.1).2.1)), (21, .int .i64 ((wantI R43.1).2.2)), (23, .bool false), (24, errV 91), (25, .int .i64 ((wantI R43.1).1)), (26, .int .i64 ((wantI R43.1).2.1)), (27, .int .i64 ((wantI R43.1).2.2))] (by kernel_rfl) ?_
  refine gl_done rfl ?_
  refine sw_next ?_
  refine sw_seq ?_
  refine sw_region ?_  -- R16 more.go:28
  refine gl_ops 5 [(19, .int .i64 ((wantI R43.1).1)), (20, .int .i64 ((wantI R43.1).2.1)), (21, .int .i64 ((wantI R43.1).2.2)), (23, .bool false), (24, errV 91), (25, .int .i64 ((wantI R43.1).1)), (26, .int .i64 ((wantI R43.1).2.1)), (27, .int .i64 ((wantI R43.1).2.2)), (129, .bool true), (130, .bool R43.2.2.1), (131, .slice A14 (nch (splitB (i : Int) (t : Int) cf dt).length) c15)] (by kernel_rfl) ?_
  refine gl_q rfl rfl rfl (rd_len (e := 48) (by kernel_rfl) rfl) ?_
  refine gl_ops 2 [(19, .int .i64 ((wantI R43.1).1)), (20, .int .i64 ((wantI R43.1).2.1)), (21, .int .i64 ((wantI R43.1).2.2)), (23, .bool false), (24, errV 91), (25, .int .i64 ((wantI R43.1).1)), (26, .int .i64 ((wantI R43.1).2.1)), (27, .int .i64 ((wantI R43.1).2.2)), (129, .bool true), (134, .bool (R43.2.2.1 == (((nch (splitB (i : Int) (t : Int) cf dt).length : Nat) : Int) == (1 : Int))))] (by kernel_rfl) ?_
  refine gl_cv 134 (.bool true) (by rw [his]; exact cv_same1 _) rfl ?_
  refine gl_ops 7 [(19, .int .i64 ((wantI R43.1).1)), (20, .int .i64 ((wantI R43.1).2.1)), (21, .int .i64 ((wantI R43.1).2.2)), (25, .int .i64 ((wantI R43.1).1)), (26, .int .i64 ((wantI R43.1).2.1)), (27, .int .i64 ((wantI R43.1).2.2)), (140, .bool true), (141, errV 91)] (by kernel_rfl) ?_
  refine gl_st (st_call rfl rfl rfl (by kernel_rfl) rfl (Code_ct 91 _ (hH.zin _ _ hG)) ?_)
  rintro _ w91 ⟨rfl, hF92⟩
  replace hH := hH.call hF92; clear hF92
  refine gl_ops 6 [(20, .int .i64 ((wantI R43.1).2.1)), (21, .int .i64 ((wantI R43.1).2.2)), (26, .int .i64 ((wantI R43.1).2.1)), (27, .int .i64 ((wantI R43.1).2.2)), (145, .bool true), (148, .bool (((wantI R43.1).1) == ((wantI R43.1).1)))] (by kernel_rfl) ?_
  refine gl_cv 148 (.bool true) (by rw [beq_self_eq_true]) rfl ?_
  refine gl_ops 5 [(21, .int .i64 ((wantI R43.1).2.2)), (27, .int .i64 ((wantI R43.1).2.2)), (150, .bool true), (153, .bool (((wantI R43.1).2.1) == ((wantI R43.1).2.1)))] (by kernel_rfl) ?_
  refine gl_cv 153 (.bool true) (by rw [beq_self_eq_true]) rfl ?_
  refine gl_ops 5 [(155, .bool true), (158, .bool (((wantI R43.1).2.2) == ((wantI R43.1).2.2)))] (by kernel_rfl) ?_
  refine gl_cv 158 (.bool true) (by rw [beq_self_eq_true]) rfl ?_
  refine gl_ops 2 [(8, .bool true)] (by kernel_rfl) ?_
  refine gl_done rfl ?_
  refine sw_next ?_
  refine sw_ret ?_
  refine ret1 rfl rfl  ?_
  exact ⟨rfl, (hH.sublist (List.nil_sublist _)).fresh⟩
end Go.Proofs.YtjcchjgkkplamaaDoor
