/- Law 20: a snapshot that was taken apart comes together, in whatever order its parts come: the law's walk. -/
import Derived.Test.YtjcchjgkkplamaaDoorSmall
import Derived.Test.YtjcchjgkkplamaaDoorSWQ
import Derived.Test.YtjcchjgkkplamaaDoorSame
import Derived.Test.YtjcchjgkkplamaaDoorWholeP
set_option maxRecDepth 100000
set_option maxHeartbeats 4000000
set_option linter.unusedVariables false
set_option linter.unusedSimpArgs false
namespace Go.Proofs.YtjcchjgkkplamaaDoor
open Go.RowKit Go.SW
theorem same_of {s : Snp} {i t : Int} {cf dt : List UInt8} (h : s = ⟨i, t, cf, dt⟩) : sameS s.idx s.term s.conf s.data i t cf dt = true := by subst h; exact sameS_refl _ _ _ _
theorem split_none {i t : Int} {cf dt : List UInt8} (h : splitE i t cf dt ≠ 0) : nch (splitB i t cf dt).length = 0 := by unfold splitB; rw [if_pos h]; rfl
theorem next_new {th th2 : List Bool} {j : Nat} (h : ∀ q : Nat, th2.getD q false = (th.getD q false || decide (q < j))) (hl : j < th2.length) : ∀ q : Nat, (th2.set j true).getD q false = (th.getD q false || decide (q < j + 1)) := by
  intro q
  rw [getD_set _ _ _ hl, h q, Bool.or_assoc]
  congr 1
  rw [Bool.eq_iff_iff]
  simp only [Bool.or_eq_true, decide_eq_true_eq]
  omega
theorem next_old {th th2 : List Bool} {j : Nat} (h : ∀ q : Nat, th2.getD q false = (th.getD q false || decide (q < j))) (ht : th.getD j false = true) : ∀ q : Nat, th2.getD q false = (th.getD q false || decide (q < j + 1)) := by
  intro q
  rw [h q]
  by_cases hq : q = j
  · subst hq; rw [ht]; rfl
  · congr 1
    rw [Bool.eq_iff_iff]
    simp only [decide_eq_true_eq]
    omega
theorem todo_all : ∀ {th : List Bool}, (∀ k : Nat, k < th.length → th.getD k false = true) → todo th = 0
  | [], _ => rfl
  | c :: th, h => by
    have h0 : c = true := h 0 (by simp)
    subst h0
    have := todo_all (th := th) (fun k hk => h (k + 1) (by simpa using hk))
    simpa [todo] using this
theorem col_end {i t : Int} {cf dt b : List UInt8} {th th2 : List Bool} {left : Nat} {S : Ibx} (hc : Col i t cf dt b th2 left S) {j : Nat} (h : ∀ q : Nat, th2.getD q false = (th.getD q false || decide (q < j))) (hj : nch b.length ≤ j) : left = 0 := by
  rw [hc.todo]
  refine todo_all fun k hk => ?_
  rw [h k, show decide (k < j) = true from decide_eq_true (by rw [hc.len] at hk; omega), Bool.or_true]

theorem VaultWhole_ct (i t i2 t2 : Int) (vc vd vc2 vd2 vo : Value) (cf dt cf2 dt2 : List UInt8) (zs : List Int) (w : World) (hG : w.cell? ⟨0, 0, none⟩ = some errTy) (kc : RB w.cell? vc cf) (kd : RB w.cell? vd dt) (kcb : RB w.cell? vc2 cf2) (kdb : RB w.cell? vd2 dt2) (kO : Row w.cell? vo 1 zs.length (iv zs))
    (hi : -9223372036854775808 ≤ i ∧ i ≤ 9223372036854775807) (ht : -9223372036854775808 ≤ t ∧ t ≤ 9223372036854775807) (hi2 : -9223372036854775808 ≤ i2 ∧ i2 ≤ 9223372036854775807) (ht2 : -9223372036854775808 ≤ t2 ∧ t2 ≤ 9223372036854775807)
    (hdl : dt.length ≤ 140737488355328) (hdl2 : dt2.length ≤ 140737488355328) :
    Fun Tryd.prog 5 [.agg #[.int .i64 i, .int .i64 t, vc, vd], .agg #[.int .i64 i2, .int .i64 t2, vc2, vd2], vo] w fun v w' => v = .bool true ∧ Fresh w w' [] := by
  obtain ⟨Ac, cc, rfl, kc1, kc2⟩ := kc.row.form
  obtain ⟨Ad, cd, rfl, kd1, kd2⟩ := kd.row.form
  obtain ⟨Ac2, cc2, rfl, kcb1, kcb2⟩ := kcb.row.form
  obtain ⟨Ad2, cd2, rfl, kdb1, kdb2⟩ := kdb.row.form
  obtain ⟨Ao, co, rfl, kO1, kO2⟩ := kO.form
  refine fun_of_sw Tryd.func5 rfl 212 rfl rfl ?_
  have hH := Hp.start w
  refine sw_seq ?_
  refine sw_region ?_  -- R0 law.go:125
  refine gl_st (st_boxH (cs := [.int .i64 i, .int .i64 t, .slice Ac cf.length cc, .slice Ad dt.length cd]) rfl rfl rfl rfl hH ?_)
  clear hH; intro b1 w2 hH
  refine gl_st (st_boxH (cs := [.int .i64 i2, .int .i64 t2, .slice Ac2 cf2.length cc2, .slice Ad2 dt2.length cd2]) rfl rfl rfl rfl hH ?_)
  clear hH; intro b3 w4 hH
  refine gl_ops 1 [(2, .slice Ao zs.length co), (3, .pointer (some ⟨b1, 0, none⟩)), (4, .pointer (some ⟨b3, 0, none⟩))] (by kernel_rfl) ?_
  refine gl_done rfl ?_
  refine sw_next ?_
  refine sw_seq ?_
  refine sw_region ?_  -- R1 law.go:126
  refine gl_st (st_call rfl rfl rfl (by kernel_rfl) rfl (Small_ct _ (hH.zin _ _ hG)) ?_)
  rintro _ w5 ⟨rfl, hF6⟩
  replace hH := hH.call hF6; clear hF6
  refine gl_ops 1 [(2, .slice Ao zs.length co), (3, .pointer (some ⟨b1, 0, none⟩)), (4, .pointer (some ⟨b3, 0, none⟩)), (7, .bool true)] (by kernel_rfl) ?_
  refine gl_done rfl ?_
  refine sw_next ?_
  refine sw_seq ?_
  refine sw_region ?_  -- R2 law.go:127
  refine gl_q rfl rfl rfl (rd_loadKA (m := 4) 0 (by kernel_rfl) hH rfl rfl (by kernel_rfl) [.int .i64 i, .int .i64 t, .slice Ac cf.length cc, .slice Ad dt.length cd] rfl rfl) ?_
  refine gl_st (st_call rfl rfl rfl (by kernel_rfl) rfl (Split_ct (i : Int) (t : Int) _ _ cf dt _ (kc.mono hH.zin) (kd.mono hH.zin) (by omega) (by omega) (by omega)) ?_)
  rintro _ w12 ⟨v7, vs8, rfl, hl9, hF13⟩
  replace hH := hH.call hF13; clear hF13
  replace hH := hH.row_eq 2 (l' := nch (splitB (i : Int) (t : Int) cf dt).length) (xs' := partsC (i : Int) (t : Int) (nch (splitB (i : Int) (t : Int) cf dt).length) vs8) rfl hl9 (by rw [hl9])
  obtain ⟨A14, c15, rfl, hl16, hm17⟩ := hH.row_form 2 rfl
  refine gl_ops 5 [(2, .slice Ao zs.length co), (3, .pointer (some ⟨b1, 0, none⟩)), (4, .pointer (some ⟨b3, 0, none⟩)), (7, .bool true), (8, .slice A14 (nch (splitB (i : Int) (t : Int) cf dt).length) c15), (9, errV (splitE (i : Int) (t : Int) cf dt))] (by kernel_rfl) ?_
  refine gl_done rfl ?_
  refine sw_next ?_
  refine sw_seq ?_
  refine sw_region ?_  -- R3 law.go:128
  refine gl_st (st_call rfl rfl rfl (by kernel_rfl) rfl (NewInbox_ct _) ?_)
  rintro _ w21 ⟨xb18, mb19, rfl, hF22⟩
  replace hH := hH.call hF22; clear hF22
  refine gl_ops 1 [(2, .slice Ao zs.length co), (3, .pointer (some ⟨b1, 0, none⟩)), (4, .pointer (some ⟨b3, 0, none⟩)), (7, .bool true), (8, .slice A14 (nch (splitB (i : Int) (t : Int) cf dt).length) c15), (9, errV (splitE (i : Int) (t : Int) cf dt)), (10, .pointer (some ⟨xb18, 0, none⟩))] (by kernel_rfl) ?_
  refine gl_done rfl ?_
  refine sw_next ?_
  refine sw_seq ?_
  refine sw_seq ?_
  refine sw_region ?_  -- R4 law.go:129
  refine gl_ops 4 [(2, .slice Ao zs.length co), (3, .pointer (some ⟨b1, 0, none⟩)), (4, .pointer (some ⟨b3, 0, none⟩)), (7, .bool true), (8, .slice A14 (nch (splitB (i : Int) (t : Int) cf dt).length) c15), (10, .pointer (some ⟨xb18, 0, none⟩)), (34, .bool false), (35, errV (splitE (i : Int) (t : Int) cf dt))] (by kernel_rfl) ?_
  refine gl_q rfl rfl rfl (rd_err_ne (by kernel_rfl) rfl) ?_
  refine gl_ops 2 [(2, .slice Ao zs.length co), (3, .pointer (some ⟨b1, 0, none⟩)), (4, .pointer (some ⟨b3, 0, none⟩)), (7, .bool true), (8, .slice A14 (nch (splitB (i : Int) (t : Int) cf dt).length) c15), (10, .pointer (some ⟨xb18, 0, none⟩)), (38, .bool ((splitE (i : Int) (t : Int) cf dt) != 0))] (by kernel_rfl) ?_
  refine gl_split 38 (b := (splitE (i : Int) (t : Int) cf dt) != 0) rfl (fun hg1 => ?_) (fun hg1 => ?_)
  ·
    try simp only [decide_eq_true_eq, beq_iff_eq, bne_iff_ne, ne_eq, Bool.not_eq_true', beq_eq_false_iff_ne, bne_eq_false_iff_eq, decide_eq_false_iff_not, Int.not_lt, Int.not_le] at hg1
    have hEn : splitE (i : Int) (t : Int) cf dt ≠ 0 := hg1
    refine gl_ops 3 [(2, .slice Ao zs.length co), (3, .pointer (some ⟨b1, 0, none⟩)), (4, .pointer (some ⟨b3, 0, none⟩)), (7, .bool true), (8, .slice A14 (nch (splitB (i : Int) (t : Int) cf dt).length) c15), (10, .pointer (some ⟨xb18, 0, none⟩)), (41, .bool true)] (by kernel_rfl) ?_
    refine gl_done rfl ?_
    refine sw_next ?_
    refine sw_true rfl rfl ?_
    refine sw_seq ?_
    refine sw_region ?_  -- R5 law.go:130
    refine gl_ops 7 [(47, .bool true), (48, .slice A14 (nch (splitB (i : Int) (t : Int) cf dt).length) c15)] (by kernel_rfl) ?_
    refine gl_q rfl rfl rfl (rd_len (e := 48) (by kernel_rfl) rfl) ?_
    refine gl_ops 3 [(6, .bool (((nch (splitB (i : Int) (t : Int) cf dt).length : Nat) : Int) == (0 : Int)))] (by kernel_rfl) ?_
    refine gl_done rfl ?_
    refine sw_next ?_
    refine sw_ret ?_
    refine thR ?_
    refine ret1 rfl rfl  ?_
    exact ⟨by rw [split_none hEn]; rfl, (hH.sublist (List.nil_sublist _)).fresh⟩
  try simp only [decide_eq_false_iff_not, beq_eq_false_iff_ne, bne_eq_false_iff_eq, ne_eq, Decidable.not_not, Int.not_lt, Int.not_le, Bool.not_eq_false', beq_iff_eq, bne_iff_ne, decide_eq_true_eq] at hg1
  have hE1 : splitE (i : Int) (t : Int) cf dt = 0 := hg1
  have hW1 := whole_of_split (i := i) (t := t) (by omega) (by omega) hE1
  have hfew1 := hW1.few
  refine gl_ops 3 [(2, .slice Ao zs.length co), (3, .pointer (some ⟨b1, 0, none⟩)), (4, .pointer (some ⟨b3, 0, none⟩)), (7, .bool true), (8, .slice A14 (nch (splitB (i : Int) (t : Int) cf dt).length) c15), (10, .pointer (some ⟨xb18, 0, none⟩)), (41, .bool false)] (by kernel_rfl) ?_
  refine gl_done rfl ?_
  refine sw_next ?_
  refine sw_false rfl rfl ?_
  refine sw_skip ?_
  refine sw_next ?_
  refine sw_seq ?_
  refine sw_region ?_  -- R6 law.go:132
  refine gl_q rfl rfl rfl (rd_loadKA (m := 4) 1 (by kernel_rfl) hH rfl rfl (by kernel_rfl) [.int .i64 i2, .int .i64 t2, .slice Ac2 cf2.length cc2, .slice Ad2 dt2.length cd2] rfl rfl) ?_
  refine gl_st (st_call rfl rfl rfl (by kernel_rfl) rfl (Split_ct (i2 : Int) (t2 : Int) _ _ cf2 dt2 _ (kcb.mono hH.zin) (kdb.mono hH.zin) (by omega) (by omega) (by omega)) ?_)
  rintro _ w28 ⟨v23, vs24, rfl, hl25, hF29⟩
  replace hH := hH.call hF29; clear hF29
  replace hH := hH.row_eq 5 (l' := nch (splitB (i2 : Int) (t2 : Int) cf2 dt2).length) (xs' := partsC (i2 : Int) (t2 : Int) (nch (splitB (i2 : Int) (t2 : Int) cf2 dt2).length) vs24) rfl hl25 (by rw [hl25])
  obtain ⟨A30, c31, rfl, hl32, hm33⟩ := hH.row_form 5 rfl
  refine gl_ops 5 [(2, .slice Ao zs.length co), (3, .pointer (some ⟨b1, 0, none⟩)), (4, .pointer (some ⟨b3, 0, none⟩)), (8, .slice A14 (nch (splitB (i : Int) (t : Int) cf dt).length) c15), (10, .pointer (some ⟨xb18, 0, none⟩)), (11, .slice A30 (nch (splitB (i2 : Int) (t2 : Int) cf2 dt2).length) c31), (12, errV (splitE (i2 : Int) (t2 : Int) cf2 dt2))] (by kernel_rfl) ?_
  refine gl_done rfl ?_
  refine sw_next ?_
  refine sw_cut (γ := Bool) (fun older => [(2, .slice Ao zs.length co), (3, .pointer (some ⟨b1, 0, none⟩)), (8, .slice A14 (nch (splitB (i : Int) (t : Int) cf dt).length) c15), (10, .pointer (some ⟨xb18, 0, none⟩)), (11, .slice A30 (nch (splitB (i2 : Int) (t2 : Int) cf2 dt2).length) c31), (13, .bool older)]) (fun older w_ => (older = true → splitE (i2 : Int) (t2 : Int) cf2 dt2 = 0 ∧ (t2 < t ∨ t2 = t ∧ i2 < i)) ∧ Hp w w_ (w.cell?) [] [.blk b1 24 [.int .i64 i, .int .i64 t, .slice Ac cf.length cc, .slice Ad dt.length cd], .blk b3 24 [.int .i64 i2, .int .i64 t2, .slice Ac2 cf2.length cc2, .slice Ad2 dt2.length cd2], .row (.slice A14 (nch (splitB (i : Int) (t : Int) cf dt).length) c15) 48 5 (nch (splitB (i : Int) (t : Int) cf dt).length) (partsC (i : Int) (t : Int) (nch (splitB (i : Int) (t : Int) cf dt).length) vs8), .grp (partOwn 5 (splitB (i : Int) (t : Int) cf dt) vs8), .grp (ibxO xb18 0 mb19 ⟨none, 0, []⟩ []), .row (.slice A30 (nch (splitB (i2 : Int) (t2 : Int) cf2 dt2).length) c31) 48 5 (nch (splitB (i2 : Int) (t2 : Int) cf2 dt2).length) (partsC (i2 : Int) (t2 : Int) (nch (splitB (i2 : Int) (t2 : Int) cf2 dt2).length) vs24), .grp (partOwn 5 (splitB (i2 : Int) (t2 : Int) cf2 dt2) vs24)]) ?_ ?_
  ·
    refine sw_region ?_  -- R7 law.go:133
    refine gl_ops 1 [(2, .slice Ao zs.length co), (3, .pointer (some ⟨b1, 0, none⟩)), (4, .pointer (some ⟨b3, 0, none⟩)), (8, .slice A14 (nch (splitB (i : Int) (t : Int) cf dt).length) c15), (10, .pointer (some ⟨xb18, 0, none⟩)), (11, .slice A30 (nch (splitB (i2 : Int) (t2 : Int) cf2 dt2).length) c31), (57, errV (splitE (i2 : Int) (t2 : Int) cf2 dt2))] (by kernel_rfl) ?_
    refine gl_q rfl rfl rfl (rd_err_eq (by kernel_rfl) rfl) ?_
    refine gl_ops 1 [(2, .slice Ao zs.length co), (3, .pointer (some ⟨b1, 0, none⟩)), (4, .pointer (some ⟨b3, 0, none⟩)), (8, .slice A14 (nch (splitB (i : Int) (t : Int) cf dt).length) c15), (10, .pointer (some ⟨xb18, 0, none⟩)), (11, .slice A30 (nch (splitB (i2 : Int) (t2 : Int) cf2 dt2).length) c31), (59, .bool ((splitE (i2 : Int) (t2 : Int) cf2 dt2) == 0))] (by kernel_rfl) ?_
    refine gl_split 59 (b := (splitE (i2 : Int) (t2 : Int) cf2 dt2) == 0) rfl (fun hg4 => ?_) (fun hg4 => ?_)
    ·
      try simp only [decide_eq_true_eq, beq_iff_eq, bne_iff_ne, ne_eq, Bool.not_eq_true', beq_eq_false_iff_ne, bne_eq_false_iff_eq, decide_eq_false_iff_not, Int.not_lt, Int.not_le] at hg4
      refine gl_ops 1 [(2, .slice Ao zs.length co), (3, .pointer (some ⟨b1, 0, none⟩)), (4, .pointer (some ⟨b3, 0, none⟩)), (8, .slice A14 (nch (splitB (i : Int) (t : Int) cf dt).length) c15), (10, .pointer (some ⟨xb18, 0, none⟩)), (11, .slice A30 (nch (splitB (i2 : Int) (t2 : Int) cf2 dt2).length) c31), (59, .bool true), (60, .pointer (some ⟨b3, 1, none⟩))] (by kernel_rfl) ?_
      refine gl_q rfl rfl rfl (rd_loadK 1 (by kernel_rfl) hH rfl rfl rfl) ?_
      refine gl_ops 1 [(2, .slice Ao zs.length co), (3, .pointer (some ⟨b1, 0, none⟩)), (4, .pointer (some ⟨b3, 0, none⟩)), (8, .slice A14 (nch (splitB (i : Int) (t : Int) cf dt).length) c15), (10, .pointer (some ⟨xb18, 0, none⟩)), (11, .slice A30 (nch (splitB (i2 : Int) (t2 : Int) cf2 dt2).length) c31), (59, .bool true), (61, .int .i64 t2), (62, .pointer (some ⟨b1, 1, none⟩))] (by kernel_rfl) ?_
      refine gl_q rfl rfl rfl (rd_loadK 0 (by kernel_rfl) hH rfl rfl rfl) ?_
      refine gl_ops 2 [(2, .slice Ao zs.length co), (3, .pointer (some ⟨b1, 0, none⟩)), (4, .pointer (some ⟨b3, 0, none⟩)), (8, .slice A14 (nch (splitB (i : Int) (t : Int) cf dt).length) c15), (10, .pointer (some ⟨xb18, 0, none⟩)), (11, .slice A30 (nch (splitB (i2 : Int) (t2 : Int) cf2 dt2).length) c31), (59, .bool true), (65, .bool (decide ((t2 : Int) < (t : Int))))] (by kernel_rfl) ?_
      refine gl_split 65 (b := decide ((t2 : Int) < (t : Int))) rfl (fun hg5 => ?_) (fun hg5 => ?_)
      ·
        try simp only [decide_eq_true_eq, beq_iff_eq, bne_iff_ne, ne_eq, Bool.not_eq_true', beq_eq_false_iff_ne, bne_eq_false_iff_eq, decide_eq_false_iff_not, Int.not_lt, Int.not_le] at hg5
        refine gl_ops 15 [(2, .slice Ao zs.length co), (3, .pointer (some ⟨b1, 0, none⟩)), (8, .slice A14 (nch (splitB (i : Int) (t : Int) cf dt).length) c15), (10, .pointer (some ⟨xb18, 0, none⟩)), (11, .slice A30 (nch (splitB (i2 : Int) (t2 : Int) cf2 dt2).length) c31), (13, .bool true)] (by kernel_rfl) ?_
        refine gl_done rfl ?_
        refine cut_end (true) (Sub.of_eq (by kernel_rfl)) ?_
        first | exact ⟨fun hq => Bool.noConfusion hq, hH⟩ | exact ⟨fun hq => ⟨by omega, by omega⟩, hH⟩ | exact ⟨fun hq => ⟨by omega, by have := of_decide_eq_true hq; omega⟩, hH⟩
      try simp only [decide_eq_false_iff_not, beq_eq_false_iff_ne, bne_eq_false_iff_eq, ne_eq, Decidable.not_not, Int.not_lt, Int.not_le, Bool.not_eq_false', beq_iff_eq, bne_iff_ne, decide_eq_true_eq] at hg5
      refine gl_ops 1 [(2, .slice Ao zs.length co), (3, .pointer (some ⟨b1, 0, none⟩)), (4, .pointer (some ⟨b3, 0, none⟩)), (8, .slice A14 (nch (splitB (i : Int) (t : Int) cf dt).length) c15), (10, .pointer (some ⟨xb18, 0, none⟩)), (11, .slice A30 (nch (splitB (i2 : Int) (t2 : Int) cf2 dt2).length) c31), (59, .bool true), (65, .bool false), (66, .pointer (some ⟨b3, 1, none⟩))] (by kernel_rfl) ?_
      refine gl_q rfl rfl rfl (rd_loadK 1 (by kernel_rfl) hH rfl rfl rfl) ?_
      refine gl_ops 1 [(2, .slice Ao zs.length co), (3, .pointer (some ⟨b1, 0, none⟩)), (4, .pointer (some ⟨b3, 0, none⟩)), (8, .slice A14 (nch (splitB (i : Int) (t : Int) cf dt).length) c15), (10, .pointer (some ⟨xb18, 0, none⟩)), (11, .slice A30 (nch (splitB (i2 : Int) (t2 : Int) cf2 dt2).length) c31), (59, .bool true), (65, .bool false), (67, .int .i64 t2), (68, .pointer (some ⟨b1, 1, none⟩))] (by kernel_rfl) ?_
      refine gl_q rfl rfl rfl (rd_loadK 0 (by kernel_rfl) hH rfl rfl rfl) ?_
      refine gl_ops 2 [(2, .slice Ao zs.length co), (3, .pointer (some ⟨b1, 0, none⟩)), (4, .pointer (some ⟨b3, 0, none⟩)), (8, .slice A14 (nch (splitB (i : Int) (t : Int) cf dt).length) c15), (10, .pointer (some ⟨xb18, 0, none⟩)), (11, .slice A30 (nch (splitB (i2 : Int) (t2 : Int) cf2 dt2).length) c31), (59, .bool true), (65, .bool false), (71, .bool ((t2 : Int) == (t : Int)))] (by kernel_rfl) ?_
      refine gl_split 71 (b := (t2 : Int) == (t : Int)) rfl (fun hg6 => ?_) (fun hg6 => ?_)
      ·
        try simp only [decide_eq_true_eq, beq_iff_eq, bne_iff_ne, ne_eq, Bool.not_eq_true', beq_eq_false_iff_ne, bne_eq_false_iff_eq, decide_eq_false_iff_not, Int.not_lt, Int.not_le] at hg6
        refine gl_ops 1 [(2, .slice Ao zs.length co), (3, .pointer (some ⟨b1, 0, none⟩)), (8, .slice A14 (nch (splitB (i : Int) (t : Int) cf dt).length) c15), (10, .pointer (some ⟨xb18, 0, none⟩)), (11, .slice A30 (nch (splitB (i2 : Int) (t2 : Int) cf2 dt2).length) c31), (59, .bool true), (65, .bool false), (71, .bool true), (72, .pointer (some ⟨b3, 0, none⟩))] (by kernel_rfl) ?_
        refine gl_q rfl rfl rfl (rd_loadK 1 (by kernel_rfl) hH rfl rfl rfl) ?_
        refine gl_ops 1 [(2, .slice Ao zs.length co), (3, .pointer (some ⟨b1, 0, none⟩)), (8, .slice A14 (nch (splitB (i : Int) (t : Int) cf dt).length) c15), (10, .pointer (some ⟨xb18, 0, none⟩)), (11, .slice A30 (nch (splitB (i2 : Int) (t2 : Int) cf2 dt2).length) c31), (59, .bool true), (65, .bool false), (71, .bool true), (73, .int .i64 i2), (74, .pointer (some ⟨b1, 0, none⟩))] (by kernel_rfl) ?_
        refine gl_q rfl rfl rfl (rd_loadK 0 (by kernel_rfl) hH rfl rfl rfl) ?_
        refine gl_ops 5 [(2, .slice Ao zs.length co), (3, .pointer (some ⟨b1, 0, none⟩)), (8, .slice A14 (nch (splitB (i : Int) (t : Int) cf dt).length) c15), (10, .pointer (some ⟨xb18, 0, none⟩)), (11, .slice A30 (nch (splitB (i2 : Int) (t2 : Int) cf2 dt2).length) c31), (13, .bool (decide ((i2 : Int) < (i : Int))))] (by kernel_rfl) ?_
        refine gl_done rfl ?_
        refine cut_end (decide ((i2 : Int) < (i : Int))) (Sub.of_eq (by kernel_rfl)) ?_
        first | exact ⟨fun hq => Bool.noConfusion hq, hH⟩ | exact ⟨fun hq => ⟨by omega, by omega⟩, hH⟩ | exact ⟨fun hq => ⟨by omega, by have := of_decide_eq_true hq; omega⟩, hH⟩
      try simp only [decide_eq_false_iff_not, beq_eq_false_iff_ne, bne_eq_false_iff_eq, ne_eq, Decidable.not_not, Int.not_lt, Int.not_le, Bool.not_eq_false', beq_iff_eq, bne_iff_ne, decide_eq_true_eq] at hg6
      refine gl_ops 9 [(2, .slice Ao zs.length co), (3, .pointer (some ⟨b1, 0, none⟩)), (8, .slice A14 (nch (splitB (i : Int) (t : Int) cf dt).length) c15), (10, .pointer (some ⟨xb18, 0, none⟩)), (11, .slice A30 (nch (splitB (i2 : Int) (t2 : Int) cf2 dt2).length) c31), (13, .bool false)] (by kernel_rfl) ?_
      refine gl_done rfl ?_
      refine cut_end (false) (Sub.of_eq (by kernel_rfl)) ?_
      first | exact ⟨fun hq => Bool.noConfusion hq, hH⟩ | exact ⟨fun hq => ⟨by omega, by omega⟩, hH⟩ | exact ⟨fun hq => ⟨by omega, by have := of_decide_eq_true hq; omega⟩, hH⟩
    try simp only [decide_eq_false_iff_not, beq_eq_false_iff_ne, bne_eq_false_iff_eq, ne_eq, Decidable.not_not, Int.not_lt, Int.not_le, Bool.not_eq_false', beq_iff_eq, bne_iff_ne, decide_eq_true_eq] at hg4
    refine gl_ops 21 [(2, .slice Ao zs.length co), (3, .pointer (some ⟨b1, 0, none⟩)), (8, .slice A14 (nch (splitB (i : Int) (t : Int) cf dt).length) c15), (10, .pointer (some ⟨xb18, 0, none⟩)), (11, .slice A30 (nch (splitB (i2 : Int) (t2 : Int) cf2 dt2).length) c31), (13, .bool false)] (by kernel_rfl) ?_
    refine gl_done rfl ?_
    refine cut_end (false) (Sub.of_eq (by kernel_rfl)) ?_
    first | exact ⟨fun hq => Bool.noConfusion hq, hH⟩ | exact ⟨fun hq => ⟨by omega, by omega⟩, hH⟩ | exact ⟨fun hq => ⟨by omega, by have := of_decide_eq_true hq; omega⟩, hH⟩
  clear hH
  rintro older w34 ⟨hold0, hH⟩
  refine sw_keep [(2, .slice Ao zs.length co), (3, .pointer (some ⟨b1, 0, none⟩)), (8, .slice A14 (nch (splitB (i : Int) (t : Int) cf dt).length) c15), (10, .pointer (some ⟨xb18, 0, none⟩)), (11, .slice A30 (nch (splitB (i2 : Int) (t2 : Int) cf2 dt2).length) c31), (13, .bool older)] (by kernel_rfl) ?_
  refine sw_seq ?_
  refine sw_region ?_  -- R8 law.go:134
  refine gl_ops 1 [(2, .slice Ao zs.length co), (3, .pointer (some ⟨b1, 0, none⟩)), (8, .slice A14 (nch (splitB (i : Int) (t : Int) cf dt).length) c15), (10, .pointer (some ⟨xb18, 0, none⟩)), (11, .slice A30 (nch (splitB (i2 : Int) (t2 : Int) cf2 dt2).length) c31), (13, .bool older), (80, .slice A14 (nch (splitB (i : Int) (t : Int) cf dt).length) c15)] (by kernel_rfl) ?_
  refine gl_q rfl rfl rfl (rd_len (e := 48) (by kernel_rfl) rfl) ?_
  refine gl_st (st_makeH (e := 4) (zv := .bool false) (bytes := 1) rfl rfl rfl (by kernel_rfl) (by kernel_rfl) rfl (nch (splitB (i : Int) (t : Int) cf dt).length) rfl rfl (by omega) (by unfold maxLen; omega) hH ?_)
  clear hH; intro v35 w36 hH
  obtain ⟨A39, c40, rfl, hl41, hm42⟩ := hH.row_form 7 rfl
  replace hH := hH.row_eq 7 (l' := nch (splitB (i : Int) (t : Int) cf dt).length) (xs' := (List.replicate (nch (splitB (i : Int) (t : Int) cf dt).length) false).map Value.bool) rfl (rfl) (bools_new _)
  refine gl_ops 1 [(2, .slice Ao zs.length co), (3, .pointer (some ⟨b1, 0, none⟩)), (8, .slice A14 (nch (splitB (i : Int) (t : Int) cf dt).length) c15), (10, .pointer (some ⟨xb18, 0, none⟩)), (11, .slice A30 (nch (splitB (i2 : Int) (t2 : Int) cf2 dt2).length) c31), (13, .bool older), (14, .slice A39 (nch (splitB (i : Int) (t : Int) cf dt).length) c40)] (by kernel_rfl) ?_
  refine gl_done rfl ?_
  refine sw_next ?_
  refine sw_seq ?_
  refine sw_region ?_  -- R9 law.go:135
  refine gl_ops 1 [(2, .slice Ao zs.length co), (3, .pointer (some ⟨b1, 0, none⟩)), (8, .slice A14 (nch (splitB (i : Int) (t : Int) cf dt).length) c15), (10, .pointer (some ⟨xb18, 0, none⟩)), (11, .slice A30 (nch (splitB (i2 : Int) (t2 : Int) cf2 dt2).length) c31), (13, .bool older), (14, .slice A39 (nch (splitB (i : Int) (t : Int) cf dt).length) c40), (83, .slice A14 (nch (splitB (i : Int) (t : Int) cf dt).length) c15)] (by kernel_rfl) ?_
  refine gl_q rfl rfl rfl (rd_len (e := 48) (by kernel_rfl) rfl) ?_
  refine gl_ops 1 [(2, .slice Ao zs.length co), (3, .pointer (some ⟨b1, 0, none⟩)), (8, .slice A14 (nch (splitB (i : Int) (t : Int) cf dt).length) c15), (10, .pointer (some ⟨xb18, 0, none⟩)), (11, .slice A30 (nch (splitB (i2 : Int) (t2 : Int) cf2 dt2).length) c31), (13, .bool older), (14, .slice A39 (nch (splitB (i : Int) (t : Int) cf dt).length) c40), (15, .int .i64 ((nch (splitB (i : Int) (t : Int) cf dt).length : Nat) : Int))] (by kernel_rfl) ?_
  refine gl_done rfl ?_
  refine sw_next ?_
  refine sw_cut (γ := Nat × List Bool × Ibx × Nat × List (Int × Value)) (fun (left, th, S, nb, lm) => [(3, .pointer (some ⟨b1, 0, none⟩)), (8, .slice A14 (nch (splitB (i : Int) (t : Int) cf dt).length) c15), (10, .pointer (some ⟨xb18, 0, none⟩)), (14, .slice A39 (nch (splitB (i : Int) (t : Int) cf dt).length) c40), (15, .int .i64 ((left : Nat) : Int))]) (fun (left, th, S, nb, lm) w_ => (Col i t cf dt (splitB (i : Int) (t : Int) cf dt) th left S) ∧ (Ibx.Fit S lm) ∧ Hp w w_ (w.cell?) [] [.blk b1 24 [.int .i64 i, .int .i64 t, .slice Ac cf.length cc, .slice Ad dt.length cd], .blk b3 24 [.int .i64 i2, .int .i64 t2, .slice Ac2 cf2.length cc2, .slice Ad2 dt2.length cd2], .row (.slice A14 (nch (splitB (i : Int) (t : Int) cf dt).length) c15) 48 5 (nch (splitB (i : Int) (t : Int) cf dt).length) (partsC (i : Int) (t : Int) (nch (splitB (i : Int) (t : Int) cf dt).length) vs8), .grp (partOwn 5 (splitB (i : Int) (t : Int) cf dt) vs8), .grp (ibxO xb18 nb mb19 S lm), .row (.slice A30 (nch (splitB (i2 : Int) (t2 : Int) cf2 dt2).length) c31) 48 5 (nch (splitB (i2 : Int) (t2 : Int) cf2 dt2).length) (partsC (i2 : Int) (t2 : Int) (nch (splitB (i2 : Int) (t2 : Int) cf2 dt2).length) vs24), .grp (partOwn 5 (splitB (i2 : Int) (t2 : Int) cf2 dt2) vs24), .row (.slice A39 (nch (splitB (i : Int) (t : Int) cf dt).length) c40) 4 1 (nch (splitB (i : Int) (t : Int) cf dt).length) (th.map Value.bool)]) ?_ ?_
  ·
    refine sw_seq ?_
    refine sw_region ?_  -- R10 law.go:136
    refine gl_ops 1 [(2, .slice Ao zs.length co), (3, .pointer (some ⟨b1, 0, none⟩)), (8, .slice A14 (nch (splitB (i : Int) (t : Int) cf dt).length) c15), (10, .pointer (some ⟨xb18, 0, none⟩)), (11, .slice A30 (nch (splitB (i2 : Int) (t2 : Int) cf2 dt2).length) c31), (13, .bool older), (14, .slice A39 (nch (splitB (i : Int) (t : Int) cf dt).length) c40), (15, .int .i64 ((nch (splitB (i : Int) (t : Int) cf dt).length : Nat) : Int)), (16, .int .i64 0)] (by kernel_rfl) ?_
    refine gl_done rfl ?_
    refine sw_next ?_
    refine sw_block ?_
    refine sw_loop (γ := Nat × Nat × List Bool × Ibx × Nat × List (Int × Value)) (fun (j, left, th, S, nb, lm) => [(2, .slice Ao zs.length co), (3, .pointer (some ⟨b1, 0, none⟩)), (8, .slice A14 (nch (splitB (i : Int) (t : Int) cf dt).length) c15), (10, .pointer (some ⟨xb18, 0, none⟩)), (11, .slice A30 (nch (splitB (i2 : Int) (t2 : Int) cf2 dt2).length) c31), (13, .bool older), (14, .slice A39 (nch (splitB (i : Int) (t : Int) cf dt).length) c40), (15, .int .i64 ((left : Nat) : Int)), (16, .int .i64 ((j : Nat) : Int))]) (fun (j, left, th, S, nb, lm) w_ => (j ≤ 3000) ∧ (Col i t cf dt (splitB (i : Int) (t : Int) cf dt) th left S) ∧ (Ibx.Fit S lm) ∧ Hp w w_ (w.cell?) [] [.blk b1 24 [.int .i64 i, .int .i64 t, .slice Ac cf.length cc, .slice Ad dt.length cd], .blk b3 24 [.int .i64 i2, .int .i64 t2, .slice Ac2 cf2.length cc2, .slice Ad2 dt2.length cd2], .row (.slice A14 (nch (splitB (i : Int) (t : Int) cf dt).length) c15) 48 5 (nch (splitB (i : Int) (t : Int) cf dt).length) (partsC (i : Int) (t : Int) (nch (splitB (i : Int) (t : Int) cf dt).length) vs8), .grp (partOwn 5 (splitB (i : Int) (t : Int) cf dt) vs8), .grp (ibxO xb18 nb mb19 S lm), .row (.slice A30 (nch (splitB (i2 : Int) (t2 : Int) cf2 dt2).length) c31) 48 5 (nch (splitB (i2 : Int) (t2 : Int) cf2 dt2).length) (partsC (i2 : Int) (t2 : Int) (nch (splitB (i2 : Int) (t2 : Int) cf2 dt2).length) vs24), .grp (partOwn 5 (splitB (i2 : Int) (t2 : Int) cf2 dt2) vs24), .row (.slice A39 (nch (splitB (i : Int) (t : Int) cf dt).length) c40) 4 1 (nch (splitB (i : Int) (t : Int) cf dt).length) (th.map Value.bool)]) (fun (j, left, th, S, nb, lm) => 3000 - j) (0, nch (splitB (i : Int) (t : Int) cf dt).length, List.replicate (nch (splitB (i : Int) (t : Int) cf dt).length) false, ⟨none, 0, []⟩, 0, []) (Sub.of_eq (by kernel_rfl)) ?_ ?_
    · exact ⟨by omega, col_new hW1, fit_new, hH⟩
    clear hH
    rintro ⟨j, left, th, S, nb, lm⟩ w43 ⟨hj, hcol, hfit, hH⟩
    refine sw_keep [(2, .slice Ao zs.length co), (3, .pointer (some ⟨b1, 0, none⟩)), (8, .slice A14 (nch (splitB (i : Int) (t : Int) cf dt).length) c15), (10, .pointer (some ⟨xb18, 0, none⟩)), (11, .slice A30 (nch (splitB (i2 : Int) (t2 : Int) cf2 dt2).length) c31), (13, .bool older), (14, .slice A39 (nch (splitB (i : Int) (t : Int) cf dt).length) c40), (15, .int .i64 ((left : Nat) : Int)), (16, .int .i64 ((j : Nat) : Int))] (by kernel_rfl) ?_
    refine sw_seq ?_
    refine sw_seq ?_
    refine sw_region ?_  -- R11 law.go:136
    refine gl_ops 2 [(2, .slice Ao zs.length co), (3, .pointer (some ⟨b1, 0, none⟩)), (8, .slice A14 (nch (splitB (i : Int) (t : Int) cf dt).length) c15), (10, .pointer (some ⟨xb18, 0, none⟩)), (11, .slice A30 (nch (splitB (i2 : Int) (t2 : Int) cf2 dt2).length) c31), (13, .bool older), (14, .slice A39 (nch (splitB (i : Int) (t : Int) cf dt).length) c40), (15, .int .i64 ((left : Nat) : Int)), (16, .int .i64 ((j : Nat) : Int)), (85, .int .i64 ((j : Nat) : Int)), (86, .slice Ao zs.length co)] (by kernel_rfl) ?_
    refine gl_q rfl rfl rfl (rd_len (e := 3) (by kernel_rfl) rfl) ?_
    refine gl_ops 2 [(2, .slice Ao zs.length co), (3, .pointer (some ⟨b1, 0, none⟩)), (8, .slice A14 (nch (splitB (i : Int) (t : Int) cf dt).length) c15), (10, .pointer (some ⟨xb18, 0, none⟩)), (11, .slice A30 (nch (splitB (i2 : Int) (t2 : Int) cf2 dt2).length) c31), (13, .bool older), (14, .slice A39 (nch (splitB (i : Int) (t : Int) cf dt).length) c40), (15, .int .i64 ((left : Nat) : Int)), (16, .int .i64 ((j : Nat) : Int)), (89, .bool (decide (((j : Nat) : Int) < ((zs.length : Nat) : Int))))] (by kernel_rfl) ?_
    refine gl_split 89 (b := decide (((j : Nat) : Int) < ((zs.length : Nat) : Int))) rfl (fun hg7 => ?_) (fun hg7 => ?_)
    ·
      try simp only [decide_eq_true_eq, beq_iff_eq, bne_iff_ne, ne_eq, Bool.not_eq_true', beq_eq_false_iff_ne, bne_eq_false_iff_eq, decide_eq_false_iff_not, Int.not_lt, Int.not_le] at hg7
      refine gl_ops 3 [(2, .slice Ao zs.length co), (3, .pointer (some ⟨b1, 0, none⟩)), (8, .slice A14 (nch (splitB (i : Int) (t : Int) cf dt).length) c15), (10, .pointer (some ⟨xb18, 0, none⟩)), (11, .slice A30 (nch (splitB (i2 : Int) (t2 : Int) cf2 dt2).length) c31), (13, .bool older), (14, .slice A39 (nch (splitB (i : Int) (t : Int) cf dt).length) c40), (15, .int .i64 ((left : Nat) : Int)), (16, .int .i64 ((j : Nat) : Int)), (92, .bool (decide (((j : Nat) : Int) < (3000 : Int))))] (by kernel_rfl) ?_
      refine gl_done rfl ?_
      refine sw_next ?_
      refine sw_cond rfl rfl (fun hc8 => ?_) (fun hc8 => ?_)
      ·
        try simp only [decide_eq_true_eq, beq_iff_eq, bne_iff_ne, ne_eq, Bool.not_eq_true', beq_eq_false_iff_ne, bne_eq_false_iff_eq, decide_eq_false_iff_not, Int.not_lt, Int.not_le] at hc8
        refine sw_skip ?_
        refine sw_next ?_
        refine sw_seq ?_
        refine sw_block ?_
        refine sw_cut (γ := Unit) (fun _ => [(2, .slice Ao zs.length co), (3, .pointer (some ⟨b1, 0, none⟩)), (8, .slice A14 (nch (splitB (i : Int) (t : Int) cf dt).length) c15), (10, .pointer (some ⟨xb18, 0, none⟩)), (11, .slice A30 (nch (splitB (i2 : Int) (t2 : Int) cf2 dt2).length) c31), (13, .bool older), (14, .slice A39 (nch (splitB (i : Int) (t : Int) cf dt).length) c40), (15, .int .i64 ((left : Nat) : Int)), (16, .int .i64 ((j : Nat) : Int))]) (fun _ w_ => Hp w w_ (w.cell?) [] [.blk b1 24 [.int .i64 i, .int .i64 t, .slice Ac cf.length cc, .slice Ad dt.length cd], .blk b3 24 [.int .i64 i2, .int .i64 t2, .slice Ac2 cf2.length cc2, .slice Ad2 dt2.length cd2], .row (.slice A14 (nch (splitB (i : Int) (t : Int) cf dt).length) c15) 48 5 (nch (splitB (i : Int) (t : Int) cf dt).length) (partsC (i : Int) (t : Int) (nch (splitB (i : Int) (t : Int) cf dt).length) vs8), .grp (partOwn 5 (splitB (i : Int) (t : Int) cf dt) vs8), .grp (ibxO xb18 nb mb19 S lm), .row (.slice A30 (nch (splitB (i2 : Int) (t2 : Int) cf2 dt2).length) c31) 48 5 (nch (splitB (i2 : Int) (t2 : Int) cf2 dt2).length) (partsC (i2 : Int) (t2 : Int) (nch (splitB (i2 : Int) (t2 : Int) cf2 dt2).length) vs24), .grp (partOwn 5 (splitB (i2 : Int) (t2 : Int) cf2 dt2) vs24), .row (.slice A39 (nch (splitB (i : Int) (t : Int) cf dt).length) c40) 4 1 (nch (splitB (i : Int) (t : Int) cf dt).length) (th.map Value.bool)]) ?_ ?_
        ·
          refine sw_seq ?_
          refine sw_region ?_  -- R13 law.go:137
          refine gl_ops 2 [(2, .slice Ao zs.length co), (3, .pointer (some ⟨b1, 0, none⟩)), (8, .slice A14 (nch (splitB (i : Int) (t : Int) cf dt).length) c15), (10, .pointer (some ⟨xb18, 0, none⟩)), (11, .slice A30 (nch (splitB (i2 : Int) (t2 : Int) cf2 dt2).length) c31), (13, .bool older), (14, .slice A39 (nch (splitB (i : Int) (t : Int) cf dt).length) c40), (15, .int .i64 ((left : Nat) : Int)), (16, .int .i64 ((j : Nat) : Int)), (96, .bool older)] (by kernel_rfl) ?_
          refine gl_split 96 (b := older) rfl (fun hg9 => ?_) (fun hg9 => ?_)
          ·
            try simp only [decide_eq_true_eq, beq_iff_eq, bne_iff_ne, ne_eq, Bool.not_eq_true', beq_eq_false_iff_ne, bne_eq_false_iff_eq, decide_eq_false_iff_not, Int.not_lt, Int.not_le] at hg9
            obtain ⟨hE2, hold⟩ := hold0 hg9
            have hW2 := whole_of_split (i := i2) (t := t2) (by omega) (by omega) hE2
            refine gl_ops 1 [(2, .slice Ao zs.length co), (3, .pointer (some ⟨b1, 0, none⟩)), (8, .slice A14 (nch (splitB (i : Int) (t : Int) cf dt).length) c15), (10, .pointer (some ⟨xb18, 0, none⟩)), (11, .slice A30 (nch (splitB (i2 : Int) (t2 : Int) cf2 dt2).length) c31), (13, .bool older), (14, .slice A39 (nch (splitB (i : Int) (t : Int) cf dt).length) c40), (15, .int .i64 ((left : Nat) : Int)), (16, .int .i64 ((j : Nat) : Int)), (96, .bool true), (97, .slice A30 (nch (splitB (i2 : Int) (t2 : Int) cf2 dt2).length) c31)] (by kernel_rfl) ?_
            refine gl_q rfl rfl rfl (rd_len (e := 48) (by kernel_rfl) rfl) ?_
            refine gl_ops 3 [(2, .slice Ao zs.length co), (3, .pointer (some ⟨b1, 0, none⟩)), (8, .slice A14 (nch (splitB (i : Int) (t : Int) cf dt).length) c15), (10, .pointer (some ⟨xb18, 0, none⟩)), (11, .slice A30 (nch (splitB (i2 : Int) (t2 : Int) cf2 dt2).length) c31), (13, .bool older), (14, .slice A39 (nch (splitB (i : Int) (t : Int) cf dt).length) c40), (15, .int .i64 ((left : Nat) : Int)), (16, .int .i64 ((j : Nat) : Int)), (101, .bool (decide (((nch (splitB (i2 : Int) (t2 : Int) cf2 dt2).length : Nat) : Int) > (0 : Int))))] (by kernel_rfl) ?_
            refine gl_split 101 (b := decide (((nch (splitB (i2 : Int) (t2 : Int) cf2 dt2).length : Nat) : Int) > (0 : Int))) rfl (fun hg10 => ?_) (fun hg10 => ?_)
            ·
              try simp only [decide_eq_true_eq, beq_iff_eq, bne_iff_ne, ne_eq, Bool.not_eq_true', beq_eq_false_iff_ne, bne_eq_false_iff_eq, decide_eq_false_iff_not, Int.not_lt, Int.not_le] at hg10
              obtain ⟨p44, hi46, hp45⟩ := kO.idx j (by omega) (by decide)
              refine gl_ops 2 [(2, .slice Ao zs.length co), (3, .pointer (some ⟨b1, 0, none⟩)), (8, .slice A14 (nch (splitB (i : Int) (t : Int) cf dt).length) c15), (10, .pointer (some ⟨xb18, 0, none⟩)), (11, .slice A30 (nch (splitB (i2 : Int) (t2 : Int) cf2 dt2).length) c31), (13, .bool older), (14, .slice A39 (nch (splitB (i : Int) (t : Int) cf dt).length) c40), (15, .int .i64 ((left : Nat) : Int)), (16, .int .i64 ((j : Nat) : Int)), (101, .bool true), (102, .slice Ao zs.length co), (103, .int .i64 ((j : Nat) : Int))] (by kernel_rfl) ?_
              refine gl_q rfl rfl rfl (rd_idx (e := 3) (m := 1) (by kernel_rfl) (by kernel_rfl) rfl rfl hi46) ?_
              refine gl_q rfl rfl rfl (rd_load (by kernel_rfl) rfl (hH.zin _ _ (hp45 0 _ (by decide) (iv_at zs j (by omega))))) ?_
              refine gl_ops 1 [(2, .slice Ao zs.length co), (3, .pointer (some ⟨b1, 0, none⟩)), (8, .slice A14 (nch (splitB (i : Int) (t : Int) cf dt).length) c15), (10, .pointer (some ⟨xb18, 0, none⟩)), (11, .slice A30 (nch (splitB (i2 : Int) (t2 : Int) cf2 dt2).length) c31), (13, .bool older), (14, .slice A39 (nch (splitB (i : Int) (t : Int) cf dt).length) c40), (15, .int .i64 ((left : Nat) : Int)), (16, .int .i64 ((j : Nat) : Int)), (101, .bool true), (106, .int .i64 (IntKind.i64.wrap (((BitVec.ofInt 64 (zs.getD j 0) &&& BitVec.ofInt 64 3).toNat : Nat) : Int)))] (by kernel_rfl) ?_
              refine gl_cv 106 (.int .i64 ((lo2 (zs.getD j 0) : Nat) : Int)) (cv_lo2 _) rfl ?_
              refine gl_ops 2 [(2, .slice Ao zs.length co), (3, .pointer (some ⟨b1, 0, none⟩)), (8, .slice A14 (nch (splitB (i : Int) (t : Int) cf dt).length) c15), (10, .pointer (some ⟨xb18, 0, none⟩)), (11, .slice A30 (nch (splitB (i2 : Int) (t2 : Int) cf2 dt2).length) c31), (13, .bool older), (14, .slice A39 (nch (splitB (i : Int) (t : Int) cf dt).length) c40), (15, .int .i64 ((left : Nat) : Int)), (16, .int .i64 ((j : Nat) : Int)), (108, .bool (((lo2 (zs.getD j 0) : Nat) : Int) == (0 : Int)))] (by kernel_rfl) ?_
              refine gl_done rfl ?_
              refine sw_next ?_
              refine sw_cond rfl rfl (fun hc11 => ?_) (fun hc11 => ?_)
              ·
                try simp only [decide_eq_true_eq, beq_iff_eq, bne_iff_ne, ne_eq, Bool.not_eq_true', beq_eq_false_iff_ne, bne_eq_false_iff_eq, decide_eq_false_iff_not, Int.not_lt, Int.not_le] at hc11
                refine sw_seq ?_
                refine sw_region ?_  -- R14 law.go:138
                obtain ⟨p47, hi49, hp48⟩ := kO.idx j (by omega) (by decide)
                refine gl_ops 4 [(2, .slice Ao zs.length co), (3, .pointer (some ⟨b1, 0, none⟩)), (8, .slice A14 (nch (splitB (i : Int) (t : Int) cf dt).length) c15), (10, .pointer (some ⟨xb18, 0, none⟩)), (11, .slice A30 (nch (splitB (i2 : Int) (t2 : Int) cf2 dt2).length) c31), (13, .bool older), (14, .slice A39 (nch (splitB (i : Int) (t : Int) cf dt).length) c40), (15, .int .i64 ((left : Nat) : Int)), (16, .int .i64 ((j : Nat) : Int)), (109, .pointer (some ⟨xb18, 0, none⟩)), (110, .slice A30 (nch (splitB (i2 : Int) (t2 : Int) cf2 dt2).length) c31), (111, .slice Ao zs.length co), (112, .int .i64 ((j : Nat) : Int))] (by kernel_rfl) ?_
                refine gl_q rfl rfl rfl (rd_idx (e := 3) (m := 1) (by kernel_rfl) (by kernel_rfl) rfl rfl hi49) ?_
                refine gl_q rfl rfl rfl (rd_load (by kernel_rfl) rfl (hH.zin _ _ (hp48 0 _ (by decide) (iv_at zs j (by omega))))) ?_
                refine gl_ops 1 [(2, .slice Ao zs.length co), (3, .pointer (some ⟨b1, 0, none⟩)), (8, .slice A14 (nch (splitB (i : Int) (t : Int) cf dt).length) c15), (10, .pointer (some ⟨xb18, 0, none⟩)), (11, .slice A30 (nch (splitB (i2 : Int) (t2 : Int) cf2 dt2).length) c31), (13, .bool older), (14, .slice A39 (nch (splitB (i : Int) (t : Int) cf dt).length) c40), (15, .int .i64 ((left : Nat) : Int)), (16, .int .i64 ((j : Nat) : Int)), (109, .pointer (some ⟨xb18, 0, none⟩)), (110, .slice A30 (nch (splitB (i2 : Int) (t2 : Int) cf2 dt2).length) c31), (115, .int .i64 (Int.fdiv (zs.getD j 0) (2 ^ 2)))] (by kernel_rfl) ?_
                refine gl_cv 115 (.int .i64 (Int.fdiv (zs.getD j 0) (2 ^ 2))) (rfl) rfl ?_
                refine gl_ops 1 [(2, .slice Ao zs.length co), (3, .pointer (some ⟨b1, 0, none⟩)), (8, .slice A14 (nch (splitB (i : Int) (t : Int) cf dt).length) c15), (10, .pointer (some ⟨xb18, 0, none⟩)), (11, .slice A30 (nch (splitB (i2 : Int) (t2 : Int) cf2 dt2).length) c31), (13, .bool older), (14, .slice A39 (nch (splitB (i : Int) (t : Int) cf dt).length) c40), (15, .int .i64 ((left : Nat) : Int)), (16, .int .i64 ((j : Nat) : Int)), (109, .pointer (some ⟨xb18, 0, none⟩)), (110, .slice A30 (nch (splitB (i2 : Int) (t2 : Int) cf2 dt2).length) c31), (116, .int .i64 (IntKind.i64.wrap (((BitVec.ofInt 64 (Int.fdiv (zs.getD j 0) (2 ^ 2)) &&& BitVec.ofInt 64 1023).toNat : Nat) : Int)))] (by kernel_rfl) ?_
                refine gl_cv 116 (.int .i64 ((lo10 (Int.fdiv (zs.getD j 0) (2 ^ 2)) : Nat) : Int)) (cv_lo10 _) rfl ?_
                refine gl_ops 1 [(2, .slice Ao zs.length co), (3, .pointer (some ⟨b1, 0, none⟩)), (8, .slice A14 (nch (splitB (i : Int) (t : Int) cf dt).length) c15), (10, .pointer (some ⟨xb18, 0, none⟩)), (11, .slice A30 (nch (splitB (i2 : Int) (t2 : Int) cf2 dt2).length) c31), (13, .bool older), (14, .slice A39 (nch (splitB (i : Int) (t : Int) cf dt).length) c40), (15, .int .i64 ((left : Nat) : Int)), (16, .int .i64 ((j : Nat) : Int)), (109, .pointer (some ⟨xb18, 0, none⟩)), (110, .slice A30 (nch (splitB (i2 : Int) (t2 : Int) cf2 dt2).length) c31), (116, .int .i64 ((lo10 (Int.fdiv (zs.getD j 0) (2 ^ 2)) : Nat) : Int)), (117, .slice A30 (nch (splitB (i2 : Int) (t2 : Int) cf2 dt2).length) c31)] (by kernel_rfl) ?_
                refine gl_q rfl rfl rfl (rd_len (e := 48) (by kernel_rfl) rfl) ?_
                obtain ⟨k2, hk2, ek2⟩ : ∃ k, k < nch (splitB (i2 : Int) (t2 : Int) cf2 dt2).length ∧ (lo10 (Int.fdiv (zs.getD j 0) (2 ^ 2))) % (nch (splitB (i2 : Int) (t2 : Int) cf2 dt2).length) = k := ⟨_, Nat.mod_lt _ hW2.n1, rfl⟩
                refine gl_q rfl rfl rfl (rd_remN (a := (lo10 (Int.fdiv (zs.getD j 0) (2 ^ 2)))) (b := (nch (splitB (i2 : Int) (t2 : Int) cf2 dt2).length)) rfl rfl hW2.n1 ek2) ?_
                obtain ⟨b51, hb50, hi52⟩ := hH.row_idx 5 rfl k2 (by omega)
                refine gl_q rfl rfl rfl (rd_idx (e := 48) (m := 5) (by kernel_rfl) (by kernel_rfl) rfl rfl hi52) ?_
                refine gl_q rfl rfl rfl (rd_loadOA (q := 5) 5 (by kernel_rfl) hH rfl rfl hb50 (by kernel_rfl) [.int .i64 i2, .int .i64 t2, .int .i64 ((k2 : Nat) : Int), .int .i64 ((nch (splitB (i2 : Int) (t2 : Int) cf2 dt2).length : Nat) : Int), (vs24.getD k2 undef)] rfl (partsC_all (i2 : Int) (t2 : Int) (nch (splitB (i2 : Int) (t2 : Int) cf2 dt2).length) vs24 k2 (by rw [hl25]; omega))) ?_
                replace hH : Hp w w43 (w.cell?) [] [.blk b1 24 [.int .i64 i, .int .i64 t, .slice Ac cf.length cc, .slice Ad dt.length cd], .blk b3 24 [.int .i64 i2, .int .i64 t2, .slice Ac2 cf2.length cc2, .slice Ad2 dt2.length cd2], .row (.slice A14 (nch (splitB (i : Int) (t : Int) cf dt).length) c15) 48 5 (nch (splitB (i : Int) (t : Int) cf dt).length) (partsC (i : Int) (t : Int) (nch (splitB (i : Int) (t : Int) cf dt).length) vs8), .grp (partOwn 5 (splitB (i : Int) (t : Int) cf dt) vs8), .grp (ibxO xb18 nb mb19 S lm), .row (.slice A30 (nch (splitB (i2 : Int) (t2 : Int) cf2 dt2).length) c31) 48 5 (nch (splitB (i2 : Int) (t2 : Int) cf2 dt2).length) (partsC (i2 : Int) (t2 : Int) (nch (splitB (i2 : Int) (t2 : Int) cf2 dt2).length) vs24), .grp (partOwn 5 (splitB (i2 : Int) (t2 : Int) cf2 dt2) vs24), .row (.slice A39 (nch (splitB (i : Int) (t : Int) cf dt).length) c40) 4 1 (nch (splitB (i : Int) (t : Int) cf dt).length) (th.map Value.bool)] := hH
                replace hH := hH.pick [4, 0, 1, 2, 3, 5, 6, 7] (by kernel_rfl) (os' := [.grp (ibxO xb18 nb mb19 S lm), .blk b1 24 [.int .i64 i, .int .i64 t, .slice Ac cf.length cc, .slice Ad dt.length cd], .blk b3 24 [.int .i64 i2, .int .i64 t2, .slice Ac2 cf2.length cc2, .slice Ad2 dt2.length cd2], .row (.slice A14 (nch (splitB (i : Int) (t : Int) cf dt).length) c15) 48 5 (nch (splitB (i : Int) (t : Int) cf dt).length) (partsC (i : Int) (t : Int) (nch (splitB (i : Int) (t : Int) cf dt).length) vs8), .grp (partOwn 5 (splitB (i : Int) (t : Int) cf dt) vs8), .row (.slice A30 (nch (splitB (i2 : Int) (t2 : Int) cf2 dt2).length) c31) 48 5 (nch (splitB (i2 : Int) (t2 : Int) cf2 dt2).length) (partsC (i2 : Int) (t2 : Int) (nch (splitB (i2 : Int) (t2 : Int) cf2 dt2).length) vs24), .grp (partOwn 5 (splitB (i2 : Int) (t2 : Int) cf2 dt2) vs24), .row (.slice A39 (nch (splitB (i : Int) (t : Int) cf dt).length) c40) 4 1 (nch (splitB (i : Int) (t : Int) cf dt).length) (th.map Value.bool)]) (by kernel_rfl)
                replace hH : Hp w w43 (w.cell?) [] ([.grp (ibxO xb18 nb mb19 S lm)] ++ [.blk b1 24 [.int .i64 i, .int .i64 t, .slice Ac cf.length cc, .slice Ad dt.length cd], .blk b3 24 [.int .i64 i2, .int .i64 t2, .slice Ac2 cf2.length cc2, .slice Ad2 dt2.length cd2], .row (.slice A14 (nch (splitB (i : Int) (t : Int) cf dt).length) c15) 48 5 (nch (splitB (i : Int) (t : Int) cf dt).length) (partsC (i : Int) (t : Int) (nch (splitB (i : Int) (t : Int) cf dt).length) vs8), .grp (partOwn 5 (splitB (i : Int) (t : Int) cf dt) vs8), .row (.slice A30 (nch (splitB (i2 : Int) (t2 : Int) cf2 dt2).length) c31) 48 5 (nch (splitB (i2 : Int) (t2 : Int) cf2 dt2).length) (partsC (i2 : Int) (t2 : Int) (nch (splitB (i2 : Int) (t2 : Int) cf2 dt2).length) vs24), .grp (partOwn 5 (splitB (i2 : Int) (t2 : Int) cf2 dt2) vs24), .row (.slice A39 (nch (splitB (i : Int) (t : Int) cf dt).length) c40) 4 1 (nch (splitB (i : Int) (t : Int) cf dt).length) (th.map Value.bool)]) := hH
                refine gl_st (st_call rfl rfl rfl (by kernel_rfl) rfl (Put_ct _ _ _ S _ (partP (i2 : Int) (t2 : Int) (splitB (i2 : Int) (t2 : Int) cf2 dt2) k2) _ _ hH.mine (part_off hH 5 rfl k2 (by rw [hl25]; omega)) (hW2.i64 k2 (by omega)) hfit) ?_)
                rintro _ w63 ⟨nv53, nb54, l55, v56, v57, R58, rfl, hR59, hf60, hF64⟩
                replace hH := hH.turns hF64; clear hF64
                replace hH : Hp w w63 (w.cell?) [] [.blk b1 24 [.int .i64 i, .int .i64 t, .slice Ac cf.length cc, .slice Ad dt.length cd], .blk b3 24 [.int .i64 i2, .int .i64 t2, .slice Ac2 cf2.length cc2, .slice Ad2 dt2.length cd2], .row (.slice A14 (nch (splitB (i : Int) (t : Int) cf dt).length) c15) 48 5 (nch (splitB (i : Int) (t : Int) cf dt).length) (partsC (i : Int) (t : Int) (nch (splitB (i : Int) (t : Int) cf dt).length) vs8), .grp (partOwn 5 (splitB (i : Int) (t : Int) cf dt) vs8), .row (.slice A30 (nch (splitB (i2 : Int) (t2 : Int) cf2 dt2).length) c31) 48 5 (nch (splitB (i2 : Int) (t2 : Int) cf2 dt2).length) (partsC (i2 : Int) (t2 : Int) (nch (splitB (i2 : Int) (t2 : Int) cf2 dt2).length) vs24), .grp (partOwn 5 (splitB (i2 : Int) (t2 : Int) cf2 dt2) vs24), .row (.slice A39 (nch (splitB (i : Int) (t : Int) cf dt).length) c40) 4 1 (nch (splitB (i : Int) (t : Int) cf dt).length) (th.map Value.bool), .grp (ibxO xb18 nb54 mb19 R58.1 l55), .row v56 5 1 R58.2.1.conf.length (bv R58.2.1.conf), .row v57 5 1 R58.2.1.data.length (bv R58.2.1.data)] := hH
                have hcol2 := col_older hcol hW2 hold k2 hk2 hR59
                obtain ⟨A65, c66, rfl, hl67, hm68⟩ := hH.row_form 8 rfl
                obtain ⟨A69, c70, rfl, hl71, hm72⟩ := hH.row_form 9 rfl
                refine gl_done rfl ?_
                refine sw_next ?_
                refine sw_exit ?_
                refine thX ?_
                refine bkH ?_
                refine sw_next ?_
                refine sw_region ?_  -- R12 law.go:136
                refine gl_ops 2 [(2, .slice Ao zs.length co), (3, .pointer (some ⟨b1, 0, none⟩)), (8, .slice A14 (nch (splitB (i : Int) (t : Int) cf dt).length) c15), (10, .pointer (some ⟨xb18, 0, none⟩)), (11, .slice A30 (nch (splitB (i2 : Int) (t2 : Int) cf2 dt2).length) c31), (13, .bool older), (14, .slice A39 (nch (splitB (i : Int) (t : Int) cf dt).length) c40), (15, .int .i64 ((left : Nat) : Int)), (94, .int .i64 (IntKind.i64.wrap (((j : Nat) : Int) + 1)))] (by kernel_rfl) ?_
                refine gl_cv 94 (.int .i64 ((j + 1 : Nat) : Int)) (cv_i64 (by omega)) rfl ?_
                refine gl_ops 1 [(2, .slice Ao zs.length co), (3, .pointer (some ⟨b1, 0, none⟩)), (8, .slice A14 (nch (splitB (i : Int) (t : Int) cf dt).length) c15), (10, .pointer (some ⟨xb18, 0, none⟩)), (11, .slice A30 (nch (splitB (i2 : Int) (t2 : Int) cf2 dt2).length) c31), (13, .bool older), (14, .slice A39 (nch (splitB (i : Int) (t : Int) cf dt).length) c40), (15, .int .i64 ((left : Nat) : Int)), (16, .int .i64 ((j + 1 : Nat) : Int))] (by kernel_rfl) ?_
                refine gl_done rfl ?_
                refine rnd_end (g := (j, left, th, S, nb, lm)) (j + 1, left, th, R58.1, nb54, l55) (by kernel_rfl) ?_ ?_
                replace hH : Hp w w63 (w.cell?) [] [.blk b1 24 [.int .i64 i, .int .i64 t, .slice Ac cf.length cc, .slice Ad dt.length cd], .blk b3 24 [.int .i64 i2, .int .i64 t2, .slice Ac2 cf2.length cc2, .slice Ad2 dt2.length cd2], .row (.slice A14 (nch (splitB (i : Int) (t : Int) cf dt).length) c15) 48 5 (nch (splitB (i : Int) (t : Int) cf dt).length) (partsC (i : Int) (t : Int) (nch (splitB (i : Int) (t : Int) cf dt).length) vs8), .grp (partOwn 5 (splitB (i : Int) (t : Int) cf dt) vs8), .row (.slice A30 (nch (splitB (i2 : Int) (t2 : Int) cf2 dt2).length) c31) 48 5 (nch (splitB (i2 : Int) (t2 : Int) cf2 dt2).length) (partsC (i2 : Int) (t2 : Int) (nch (splitB (i2 : Int) (t2 : Int) cf2 dt2).length) vs24), .grp (partOwn 5 (splitB (i2 : Int) (t2 : Int) cf2 dt2) vs24), .row (.slice A39 (nch (splitB (i : Int) (t : Int) cf dt).length) c40) 4 1 (nch (splitB (i : Int) (t : Int) cf dt).length) (th.map Value.bool), .grp (ibxO xb18 nb54 mb19 R58.1 l55), .row (.slice A65 R58.2.1.conf.length c66) 5 1 R58.2.1.conf.length (bv R58.2.1.conf), .row (.slice A69 R58.2.1.data.length c70) 5 1 R58.2.1.data.length (bv R58.2.1.data)] := hH
                · exact ⟨by omega, hcol2, hf60, ((hH.pick [0, 1, 2, 3, 7, 4, 5, 6, 8, 9] (by kernel_rfl) (os' := [.blk b1 24 [.int .i64 i, .int .i64 t, .slice Ac cf.length cc, .slice Ad dt.length cd], .blk b3 24 [.int .i64 i2, .int .i64 t2, .slice Ac2 cf2.length cc2, .slice Ad2 dt2.length cd2], .row (.slice A14 (nch (splitB (i : Int) (t : Int) cf dt).length) c15) 48 5 (nch (splitB (i : Int) (t : Int) cf dt).length) (partsC (i : Int) (t : Int) (nch (splitB (i : Int) (t : Int) cf dt).length) vs8), .grp (partOwn 5 (splitB (i : Int) (t : Int) cf dt) vs8), .grp (ibxO xb18 nb54 mb19 R58.1 l55), .row (.slice A30 (nch (splitB (i2 : Int) (t2 : Int) cf2 dt2).length) c31) 48 5 (nch (splitB (i2 : Int) (t2 : Int) cf2 dt2).length) (partsC (i2 : Int) (t2 : Int) (nch (splitB (i2 : Int) (t2 : Int) cf2 dt2).length) vs24), .grp (partOwn 5 (splitB (i2 : Int) (t2 : Int) cf2 dt2) vs24), .row (.slice A39 (nch (splitB (i : Int) (t : Int) cf dt).length) c40) 4 1 (nch (splitB (i : Int) (t : Int) cf dt).length) (th.map Value.bool), .row (.slice A65 R58.2.1.conf.length c66) 5 1 R58.2.1.conf.length (bv R58.2.1.conf), .row (.slice A69 R58.2.1.data.length c70) 5 1 R58.2.1.data.length (bv R58.2.1.data)]) (by kernel_rfl)).sublist (.cons_cons _ (.cons_cons _ (.cons_cons _ (.cons_cons _ (.cons_cons _ (.cons_cons _ (.cons_cons _ (.cons_cons _ (List.nil_sublist _))))))))))⟩
                · show 3000 - (j + 1) < 3000 - j; omega
              try simp only [decide_eq_false_iff_not, beq_eq_false_iff_ne, bne_eq_false_iff_eq, ne_eq, Decidable.not_not, Int.not_lt, Int.not_le, Bool.not_eq_false', beq_iff_eq, bne_iff_ne, decide_eq_true_eq] at hc11
              refine sw_skip ?_
              refine cut_end (()) (Sub.of_eq (by kernel_rfl)) ?_
              exact hH
            try simp only [decide_eq_false_iff_not, beq_eq_false_iff_ne, bne_eq_false_iff_eq, ne_eq, Decidable.not_not, Int.not_lt, Int.not_le, Bool.not_eq_false', beq_iff_eq, bne_iff_ne, decide_eq_true_eq] at hg10
            refine gl_ops 7 [(2, .slice Ao zs.length co), (3, .pointer (some ⟨b1, 0, none⟩)), (8, .slice A14 (nch (splitB (i : Int) (t : Int) cf dt).length) c15), (10, .pointer (some ⟨xb18, 0, none⟩)), (11, .slice A30 (nch (splitB (i2 : Int) (t2 : Int) cf2 dt2).length) c31), (13, .bool older), (14, .slice A39 (nch (splitB (i : Int) (t : Int) cf dt).length) c40), (15, .int .i64 ((left : Nat) : Int)), (16, .int .i64 ((j : Nat) : Int)), (108, .bool false)] (by kernel_rfl) ?_
            refine gl_done rfl ?_
            refine sw_next ?_
            refine sw_false rfl rfl ?_
            refine sw_skip ?_
            refine cut_end (()) (Sub.of_eq (by kernel_rfl)) ?_
            exact hH
          try simp only [decide_eq_false_iff_not, beq_eq_false_iff_ne, bne_eq_false_iff_eq, ne_eq, Decidable.not_not, Int.not_lt, Int.not_le, Bool.not_eq_false', beq_iff_eq, bne_iff_ne, decide_eq_true_eq] at hg9
          refine gl_ops 12 [(2, .slice Ao zs.length co), (3, .pointer (some ⟨b1, 0, none⟩)), (8, .slice A14 (nch (splitB (i : Int) (t : Int) cf dt).length) c15), (10, .pointer (some ⟨xb18, 0, none⟩)), (11, .slice A30 (nch (splitB (i2 : Int) (t2 : Int) cf2 dt2).length) c31), (13, .bool older), (14, .slice A39 (nch (splitB (i : Int) (t : Int) cf dt).length) c40), (15, .int .i64 ((left : Nat) : Int)), (16, .int .i64 ((j : Nat) : Int)), (108, .bool false)] (by kernel_rfl) ?_
          refine gl_done rfl ?_
          refine sw_next ?_
          refine sw_false rfl rfl ?_
          refine sw_skip ?_
          refine cut_end (()) (Sub.of_eq (by kernel_rfl)) ?_
          exact hH
        clear hH
        rintro _ w73 hH
        refine sw_keep [(2, .slice Ao zs.length co), (3, .pointer (some ⟨b1, 0, none⟩)), (8, .slice A14 (nch (splitB (i : Int) (t : Int) cf dt).length) c15), (10, .pointer (some ⟨xb18, 0, none⟩)), (11, .slice A30 (nch (splitB (i2 : Int) (t2 : Int) cf2 dt2).length) c31), (13, .bool older), (14, .slice A39 (nch (splitB (i : Int) (t : Int) cf dt).length) c40), (15, .int .i64 ((left : Nat) : Int)), (16, .int .i64 ((j : Nat) : Int))] (by kernel_rfl) ?_
        refine sw_seq ?_
        refine sw_region ?_  -- R15 law.go:141
        obtain ⟨p74, hi76, hp75⟩ := kO.idx j (by omega) (by decide)
        refine gl_ops 2 [(2, .slice Ao zs.length co), (3, .pointer (some ⟨b1, 0, none⟩)), (8, .slice A14 (nch (splitB (i : Int) (t : Int) cf dt).length) c15), (10, .pointer (some ⟨xb18, 0, none⟩)), (11, .slice A30 (nch (splitB (i2 : Int) (t2 : Int) cf2 dt2).length) c31), (13, .bool older), (14, .slice A39 (nch (splitB (i : Int) (t : Int) cf dt).length) c40), (15, .int .i64 ((left : Nat) : Int)), (16, .int .i64 ((j : Nat) : Int)), (123, .slice Ao zs.length co), (124, .int .i64 ((j : Nat) : Int))] (by kernel_rfl) ?_
        refine gl_q rfl rfl rfl (rd_idx (e := 3) (m := 1) (by kernel_rfl) (by kernel_rfl) rfl rfl hi76) ?_
        refine gl_q rfl rfl rfl (rd_load (by kernel_rfl) rfl (hH.zin _ _ (hp75 0 _ (by decide) (iv_at zs j (by omega))))) ?_
        refine gl_ops 1 [(2, .slice Ao zs.length co), (3, .pointer (some ⟨b1, 0, none⟩)), (8, .slice A14 (nch (splitB (i : Int) (t : Int) cf dt).length) c15), (10, .pointer (some ⟨xb18, 0, none⟩)), (11, .slice A30 (nch (splitB (i2 : Int) (t2 : Int) cf2 dt2).length) c31), (13, .bool older), (14, .slice A39 (nch (splitB (i : Int) (t : Int) cf dt).length) c40), (15, .int .i64 ((left : Nat) : Int)), (16, .int .i64 ((j : Nat) : Int)), (127, .int .i64 (Int.fdiv (zs.getD j 0) (2 ^ 2)))] (by kernel_rfl) ?_
        refine gl_cv 127 (.int .i64 (Int.fdiv (zs.getD j 0) (2 ^ 2))) (rfl) rfl ?_
        refine gl_ops 1 [(2, .slice Ao zs.length co), (3, .pointer (some ⟨b1, 0, none⟩)), (8, .slice A14 (nch (splitB (i : Int) (t : Int) cf dt).length) c15), (10, .pointer (some ⟨xb18, 0, none⟩)), (11, .slice A30 (nch (splitB (i2 : Int) (t2 : Int) cf2 dt2).length) c31), (13, .bool older), (14, .slice A39 (nch (splitB (i : Int) (t : Int) cf dt).length) c40), (15, .int .i64 ((left : Nat) : Int)), (16, .int .i64 ((j : Nat) : Int)), (128, .int .i64 (IntKind.i64.wrap (((BitVec.ofInt 64 (Int.fdiv (zs.getD j 0) (2 ^ 2)) &&& BitVec.ofInt 64 1023).toNat : Nat) : Int)))] (by kernel_rfl) ?_
        refine gl_cv 128 (.int .i64 ((lo10 (Int.fdiv (zs.getD j 0) (2 ^ 2)) : Nat) : Int)) (cv_lo10 _) rfl ?_
        refine gl_ops 1 [(2, .slice Ao zs.length co), (3, .pointer (some ⟨b1, 0, none⟩)), (8, .slice A14 (nch (splitB (i : Int) (t : Int) cf dt).length) c15), (10, .pointer (some ⟨xb18, 0, none⟩)), (11, .slice A30 (nch (splitB (i2 : Int) (t2 : Int) cf2 dt2).length) c31), (13, .bool older), (14, .slice A39 (nch (splitB (i : Int) (t : Int) cf dt).length) c40), (15, .int .i64 ((left : Nat) : Int)), (16, .int .i64 ((j : Nat) : Int)), (128, .int .i64 ((lo10 (Int.fdiv (zs.getD j 0) (2 ^ 2)) : Nat) : Int)), (129, .slice A14 (nch (splitB (i : Int) (t : Int) cf dt).length) c15)] (by kernel_rfl) ?_
        refine gl_q rfl rfl rfl (rd_len (e := 48) (by kernel_rfl) rfl) ?_
        obtain ⟨k1, hk1, ek1⟩ : ∃ k, k < nch (splitB (i : Int) (t : Int) cf dt).length ∧ (lo10 (Int.fdiv (zs.getD j 0) (2 ^ 2))) % (nch (splitB (i : Int) (t : Int) cf dt).length) = k := ⟨_, Nat.mod_lt _ hW1.n1, rfl⟩
        refine gl_q rfl rfl rfl (rd_remN (a := (lo10 (Int.fdiv (zs.getD j 0) (2 ^ 2)))) (b := (nch (splitB (i : Int) (t : Int) cf dt).length)) rfl rfl hW1.n1 ek1) ?_
        refine gl_ops 1 [(2, .slice Ao zs.length co), (3, .pointer (some ⟨b1, 0, none⟩)), (8, .slice A14 (nch (splitB (i : Int) (t : Int) cf dt).length) c15), (10, .pointer (some ⟨xb18, 0, none⟩)), (11, .slice A30 (nch (splitB (i2 : Int) (t2 : Int) cf2 dt2).length) c31), (13, .bool older), (14, .slice A39 (nch (splitB (i : Int) (t : Int) cf dt).length) c40), (15, .int .i64 ((left : Nat) : Int)), (16, .int .i64 ((j : Nat) : Int)), (17, .int .i64 ((k1 : Nat) : Int))] (by kernel_rfl) ?_
        refine gl_done rfl ?_
        refine sw_next ?_
        refine sw_seq ?_
        refine sw_region ?_  -- R16 law.go:142
        obtain ⟨b78, hb77, hi79⟩ := hH.row_idx 2 rfl k1 (by omega)
        refine gl_ops 3 [(2, .slice Ao zs.length co), (3, .pointer (some ⟨b1, 0, none⟩)), (8, .slice A14 (nch (splitB (i : Int) (t : Int) cf dt).length) c15), (10, .pointer (some ⟨xb18, 0, none⟩)), (11, .slice A30 (nch (splitB (i2 : Int) (t2 : Int) cf2 dt2).length) c31), (13, .bool older), (14, .slice A39 (nch (splitB (i : Int) (t : Int) cf dt).length) c40), (15, .int .i64 ((left : Nat) : Int)), (16, .int .i64 ((j : Nat) : Int)), (17, .int .i64 ((k1 : Nat) : Int)), (133, .pointer (some ⟨xb18, 0, none⟩)), (134, .slice A14 (nch (splitB (i : Int) (t : Int) cf dt).length) c15), (135, .int .i64 ((k1 : Nat) : Int))] (by kernel_rfl) ?_
        refine gl_q rfl rfl rfl (rd_idx (e := 48) (m := 5) (by kernel_rfl) (by kernel_rfl) rfl rfl hi79) ?_
        refine gl_q rfl rfl rfl (rd_loadOA (q := 5) 2 (by kernel_rfl) hH rfl rfl hb77 (by kernel_rfl) [.int .i64 i, .int .i64 t, .int .i64 ((k1 : Nat) : Int), .int .i64 ((nch (splitB (i : Int) (t : Int) cf dt).length : Nat) : Int), (vs8.getD k1 undef)] rfl (partsC_all (i : Int) (t : Int) (nch (splitB (i : Int) (t : Int) cf dt).length) vs8 k1 (by rw [hl9]; omega))) ?_
        replace hH : Hp w w73 (w.cell?) [] [.blk b1 24 [.int .i64 i, .int .i64 t, .slice Ac cf.length cc, .slice Ad dt.length cd], .blk b3 24 [.int .i64 i2, .int .i64 t2, .slice Ac2 cf2.length cc2, .slice Ad2 dt2.length cd2], .row (.slice A14 (nch (splitB (i : Int) (t : Int) cf dt).length) c15) 48 5 (nch (splitB (i : Int) (t : Int) cf dt).length) (partsC (i : Int) (t : Int) (nch (splitB (i : Int) (t : Int) cf dt).length) vs8), .grp (partOwn 5 (splitB (i : Int) (t : Int) cf dt) vs8), .grp (ibxO xb18 nb mb19 S lm), .row (.slice A30 (nch (splitB (i2 : Int) (t2 : Int) cf2 dt2).length) c31) 48 5 (nch (splitB (i2 : Int) (t2 : Int) cf2 dt2).length) (partsC (i2 : Int) (t2 : Int) (nch (splitB (i2 : Int) (t2 : Int) cf2 dt2).length) vs24), .grp (partOwn 5 (splitB (i2 : Int) (t2 : Int) cf2 dt2) vs24), .row (.slice A39 (nch (splitB (i : Int) (t : Int) cf dt).length) c40) 4 1 (nch (splitB (i : Int) (t : Int) cf dt).length) (th.map Value.bool)] := hH
        replace hH := hH.pick [4, 0, 1, 2, 3, 5, 6, 7] (by kernel_rfl) (os' := [.grp (ibxO xb18 nb mb19 S lm), .blk b1 24 [.int .i64 i, .int .i64 t, .slice Ac cf.length cc, .slice Ad dt.length cd], .blk b3 24 [.int .i64 i2, .int .i64 t2, .slice Ac2 cf2.length cc2, .slice Ad2 dt2.length cd2], .row (.slice A14 (nch (splitB (i : Int) (t : Int) cf dt).length) c15) 48 5 (nch (splitB (i : Int) (t : Int) cf dt).length) (partsC (i : Int) (t : Int) (nch (splitB (i : Int) (t : Int) cf dt).length) vs8), .grp (partOwn 5 (splitB (i : Int) (t : Int) cf dt) vs8), .row (.slice A30 (nch (splitB (i2 : Int) (t2 : Int) cf2 dt2).length) c31) 48 5 (nch (splitB (i2 : Int) (t2 : Int) cf2 dt2).length) (partsC (i2 : Int) (t2 : Int) (nch (splitB (i2 : Int) (t2 : Int) cf2 dt2).length) vs24), .grp (partOwn 5 (splitB (i2 : Int) (t2 : Int) cf2 dt2) vs24), .row (.slice A39 (nch (splitB (i : Int) (t : Int) cf dt).length) c40) 4 1 (nch (splitB (i : Int) (t : Int) cf dt).length) (th.map Value.bool)]) (by kernel_rfl)
        replace hH : Hp w w73 (w.cell?) [] ([.grp (ibxO xb18 nb mb19 S lm)] ++ [.blk b1 24 [.int .i64 i, .int .i64 t, .slice Ac cf.length cc, .slice Ad dt.length cd], .blk b3 24 [.int .i64 i2, .int .i64 t2, .slice Ac2 cf2.length cc2, .slice Ad2 dt2.length cd2], .row (.slice A14 (nch (splitB (i : Int) (t : Int) cf dt).length) c15) 48 5 (nch (splitB (i : Int) (t : Int) cf dt).length) (partsC (i : Int) (t : Int) (nch (splitB (i : Int) (t : Int) cf dt).length) vs8), .grp (partOwn 5 (splitB (i : Int) (t : Int) cf dt) vs8), .row (.slice A30 (nch (splitB (i2 : Int) (t2 : Int) cf2 dt2).length) c31) 48 5 (nch (splitB (i2 : Int) (t2 : Int) cf2 dt2).length) (partsC (i2 : Int) (t2 : Int) (nch (splitB (i2 : Int) (t2 : Int) cf2 dt2).length) vs24), .grp (partOwn 5 (splitB (i2 : Int) (t2 : Int) cf2 dt2) vs24), .row (.slice A39 (nch (splitB (i : Int) (t : Int) cf dt).length) c40) 4 1 (nch (splitB (i : Int) (t : Int) cf dt).length) (th.map Value.bool)]) := hH
        refine gl_st (st_call rfl rfl rfl (by kernel_rfl) rfl (Put_ct _ _ _ S _ (partP (i : Int) (t : Int) (splitB (i : Int) (t : Int) cf dt) k1) _ _ hH.mine (part_off hH 3 rfl k1 (by rw [hl9]; omega)) (hW1.i64 k1 (by omega)) hfit) ?_)
        rintro _ w90 ⟨nv80, nb81, l82, v83, v84, R85, rfl, hR86, hf87, hF91⟩
        replace hH := hH.turns hF91; clear hF91
        replace hH : Hp w w90 (w.cell?) [] [.blk b1 24 [.int .i64 i, .int .i64 t, .slice Ac cf.length cc, .slice Ad dt.length cd], .blk b3 24 [.int .i64 i2, .int .i64 t2, .slice Ac2 cf2.length cc2, .slice Ad2 dt2.length cd2], .row (.slice A14 (nch (splitB (i : Int) (t : Int) cf dt).length) c15) 48 5 (nch (splitB (i : Int) (t : Int) cf dt).length) (partsC (i : Int) (t : Int) (nch (splitB (i : Int) (t : Int) cf dt).length) vs8), .grp (partOwn 5 (splitB (i : Int) (t : Int) cf dt) vs8), .row (.slice A30 (nch (splitB (i2 : Int) (t2 : Int) cf2 dt2).length) c31) 48 5 (nch (splitB (i2 : Int) (t2 : Int) cf2 dt2).length) (partsC (i2 : Int) (t2 : Int) (nch (splitB (i2 : Int) (t2 : Int) cf2 dt2).length) vs24), .grp (partOwn 5 (splitB (i2 : Int) (t2 : Int) cf2 dt2) vs24), .row (.slice A39 (nch (splitB (i : Int) (t : Int) cf dt).length) c40) 4 1 (nch (splitB (i : Int) (t : Int) cf dt).length) (th.map Value.bool), .grp (ibxO xb18 nb81 mb19 R85.1 l82), .row v83 5 1 R85.2.1.conf.length (bv R85.2.1.conf), .row v84 5 1 R85.2.1.data.length (bv R85.2.1.data)] := hH
        obtain ⟨hwas, hnew⟩ := col_put hW1 hcol k1 hk1 hR86
        obtain ⟨A92, c93, rfl, hl94, hm95⟩ := hH.row_form 8 rfl
        obtain ⟨A96, c97, rfl, hl98, hm99⟩ := hH.row_form 9 rfl
        refine gl_ops 4 [(2, .slice Ao zs.length co), (3, .pointer (some ⟨b1, 0, none⟩)), (8, .slice A14 (nch (splitB (i : Int) (t : Int) cf dt).length) c15), (10, .pointer (some ⟨xb18, 0, none⟩)), (11, .slice A30 (nch (splitB (i2 : Int) (t2 : Int) cf2 dt2).length) c31), (13, .bool older), (14, .slice A39 (nch (splitB (i : Int) (t : Int) cf dt).length) c40), (15, .int .i64 ((left : Nat) : Int)), (16, .int .i64 ((j : Nat) : Int)), (17, .int .i64 ((k1 : Nat) : Int)), (139, .agg #[.int .i64 R85.2.1.idx, .int .i64 R85.2.1.term, .slice A92 R85.2.1.conf.length c93, .slice A96 R85.2.1.data.length c97]), (140, .bool R85.2.2.1), (141, errV R85.2.2.2)] (by kernel_rfl) ?_
        refine gl_st (st_allocH rfl rfl rfl (cs := [.int .i64 0, .int .i64 0, .slice none 0 0, .slice none 0 0]) (by kernel_rfl) hH ?_)
        clear hH; intro b100 w101 hH
        refine gl_st (st_storeKA (vs := [.int .i64 R85.2.1.idx, .int .i64 R85.2.1.term, .slice A92 R85.2.1.conf.length c93, .slice A96 R85.2.1.data.length c97]) 10 rfl rfl rfl hH rfl rfl (by kernel_rfl) (by kernel_rfl) rfl (by simp) [.int .i64 R85.2.1.idx, .int .i64 R85.2.1.term, .slice A92 R85.2.1.conf.length c93, .slice A96 R85.2.1.data.length c97] rfl ?_)
        clear hH; intro w102 hH
        refine gl_ops 2 [(2, .slice Ao zs.length co), (3, .pointer (some ⟨b1, 0, none⟩)), (8, .slice A14 (nch (splitB (i : Int) (t : Int) cf dt).length) c15), (10, .pointer (some ⟨xb18, 0, none⟩)), (11, .slice A30 (nch (splitB (i2 : Int) (t2 : Int) cf2 dt2).length) c31), (13, .bool older), (14, .slice A39 (nch (splitB (i : Int) (t : Int) cf dt).length) c40), (15, .int .i64 ((left : Nat) : Int)), (16, .int .i64 ((j : Nat) : Int)), (17, .int .i64 ((k1 : Nat) : Int)), (18, .pointer (some ⟨b100, 0, none⟩)), (19, .bool R85.2.2.1)] (by kernel_rfl) ?_
        refine gl_done rfl ?_
        refine sw_next ?_
        refine sw_cut (γ := Unit) (fun _ => [(2, .slice Ao zs.length co), (3, .pointer (some ⟨b1, 0, none⟩)), (8, .slice A14 (nch (splitB (i : Int) (t : Int) cf dt).length) c15), (10, .pointer (some ⟨xb18, 0, none⟩)), (11, .slice A30 (nch (splitB (i2 : Int) (t2 : Int) cf2 dt2).length) c31), (13, .bool older), (14, .slice A39 (nch (splitB (i : Int) (t : Int) cf dt).length) c40), (15, .int .i64 ((left : Nat) : Int)), (16, .int .i64 ((j : Nat) : Int)), (17, .int .i64 ((k1 : Nat) : Int)), (18, .pointer (some ⟨b100, 0, none⟩)), (19, .bool R85.2.2.1)]) (fun _ w_ => Hp w w_ (w.cell?) [] [.blk b1 24 [.int .i64 i, .int .i64 t, .slice Ac cf.length cc, .slice Ad dt.length cd], .blk b3 24 [.int .i64 i2, .int .i64 t2, .slice Ac2 cf2.length cc2, .slice Ad2 dt2.length cd2], .row (.slice A14 (nch (splitB (i : Int) (t : Int) cf dt).length) c15) 48 5 (nch (splitB (i : Int) (t : Int) cf dt).length) (partsC (i : Int) (t : Int) (nch (splitB (i : Int) (t : Int) cf dt).length) vs8), .grp (partOwn 5 (splitB (i : Int) (t : Int) cf dt) vs8), .row (.slice A30 (nch (splitB (i2 : Int) (t2 : Int) cf2 dt2).length) c31) 48 5 (nch (splitB (i2 : Int) (t2 : Int) cf2 dt2).length) (partsC (i2 : Int) (t2 : Int) (nch (splitB (i2 : Int) (t2 : Int) cf2 dt2).length) vs24), .grp (partOwn 5 (splitB (i2 : Int) (t2 : Int) cf2 dt2) vs24), .row (.slice A39 (nch (splitB (i : Int) (t : Int) cf dt).length) c40) 4 1 (nch (splitB (i : Int) (t : Int) cf dt).length) (th.map Value.bool), .grp (ibxO xb18 nb81 mb19 R85.1 l82), .row (.slice A92 R85.2.1.conf.length c93) 5 1 R85.2.1.conf.length (bv R85.2.1.conf), .row (.slice A96 R85.2.1.data.length c97) 5 1 R85.2.1.data.length (bv R85.2.1.data), .blk b100 24 [.int .i64 R85.2.1.idx, .int .i64 R85.2.1.term, .slice A92 R85.2.1.conf.length c93, .slice A96 R85.2.1.data.length c97]]) ?_ ?_
        ·
          refine sw_seq ?_
          refine sw_region ?_  -- R17 law.go:143
          refine gl_ops 3 [(2, .slice Ao zs.length co), (3, .pointer (some ⟨b1, 0, none⟩)), (8, .slice A14 (nch (splitB (i : Int) (t : Int) cf dt).length) c15), (10, .pointer (some ⟨xb18, 0, none⟩)), (11, .slice A30 (nch (splitB (i2 : Int) (t2 : Int) cf2 dt2).length) c31), (13, .bool older), (14, .slice A39 (nch (splitB (i : Int) (t : Int) cf dt).length) c40), (15, .int .i64 ((left : Nat) : Int)), (16, .int .i64 ((j : Nat) : Int)), (17, .int .i64 ((k1 : Nat) : Int)), (18, .pointer (some ⟨b100, 0, none⟩)), (19, .bool R85.2.2.1), (144, .bool (((left : Nat) : Int) == (0 : Int)))] (by kernel_rfl) ?_
          refine gl_split 144 (b := ((left : Nat) : Int) == (0 : Int)) rfl (fun hg14 => ?_) (fun hg14 => ?_)
          ·
            try simp only [decide_eq_true_eq, beq_iff_eq, bne_iff_ne, ne_eq, Bool.not_eq_true', beq_eq_false_iff_ne, bne_eq_false_iff_eq, decide_eq_false_iff_not, Int.not_lt, Int.not_le] at hg14
            refine gl_ops 2 [(2, .slice Ao zs.length co), (3, .pointer (some ⟨b1, 0, none⟩)), (8, .slice A14 (nch (splitB (i : Int) (t : Int) cf dt).length) c15), (10, .pointer (some ⟨xb18, 0, none⟩)), (11, .slice A30 (nch (splitB (i2 : Int) (t2 : Int) cf2 dt2).length) c31), (13, .bool older), (14, .slice A39 (nch (splitB (i : Int) (t : Int) cf dt).length) c40), (15, .int .i64 ((left : Nat) : Int)), (16, .int .i64 ((j : Nat) : Int)), (17, .int .i64 ((k1 : Nat) : Int)), (18, .pointer (some ⟨b100, 0, none⟩)), (19, .bool R85.2.2.1), (146, .bool R85.2.2.1)] (by kernel_rfl) ?_
            refine gl_done rfl ?_
            refine sw_next ?_
            refine sw_cond rfl rfl (fun hc15 => ?_) (fun hc15 => ?_)
            ·
              try simp only [decide_eq_true_eq, beq_iff_eq, bne_iff_ne, ne_eq, Bool.not_eq_true', beq_eq_false_iff_ne, bne_eq_false_iff_eq, decide_eq_false_iff_not, Int.not_lt, Int.not_le] at hc15
              cases hth0 : th.getD k1 false with
              | true => have h9 := (hwas hth0).2; rw [h9] at hc15; cases hc15
              | false => have h9 := (hnew hth0).1; omega
            try simp only [decide_eq_false_iff_not, beq_eq_false_iff_ne, bne_eq_false_iff_eq, ne_eq, Decidable.not_not, Int.not_lt, Int.not_le, Bool.not_eq_false', beq_iff_eq, bne_iff_ne, decide_eq_true_eq] at hc15
            refine sw_skip ?_
            refine cut_end (()) (Sub.of_eq (by kernel_rfl)) ?_
            exact hH
          try simp only [decide_eq_false_iff_not, beq_eq_false_iff_ne, bne_eq_false_iff_eq, ne_eq, Decidable.not_not, Int.not_lt, Int.not_le, Bool.not_eq_false', beq_iff_eq, bne_iff_ne, decide_eq_true_eq] at hg14
          refine gl_ops 2 [(2, .slice Ao zs.length co), (3, .pointer (some ⟨b1, 0, none⟩)), (8, .slice A14 (nch (splitB (i : Int) (t : Int) cf dt).length) c15), (10, .pointer (some ⟨xb18, 0, none⟩)), (11, .slice A30 (nch (splitB (i2 : Int) (t2 : Int) cf2 dt2).length) c31), (13, .bool older), (14, .slice A39 (nch (splitB (i : Int) (t : Int) cf dt).length) c40), (15, .int .i64 ((left : Nat) : Int)), (16, .int .i64 ((j : Nat) : Int)), (17, .int .i64 ((k1 : Nat) : Int)), (18, .pointer (some ⟨b100, 0, none⟩)), (19, .bool R85.2.2.1), (146, .bool false)] (by kernel_rfl) ?_
          refine gl_done rfl ?_
          refine sw_next ?_
          refine sw_false rfl rfl ?_
          refine sw_skip ?_
          refine cut_end (()) (Sub.of_eq (by kernel_rfl)) ?_
          exact hH
        clear hH
        rintro _ w103 hH
        refine sw_keep [(2, .slice Ao zs.length co), (3, .pointer (some ⟨b1, 0, none⟩)), (8, .slice A14 (nch (splitB (i : Int) (t : Int) cf dt).length) c15), (10, .pointer (some ⟨xb18, 0, none⟩)), (11, .slice A30 (nch (splitB (i2 : Int) (t2 : Int) cf2 dt2).length) c31), (13, .bool older), (14, .slice A39 (nch (splitB (i : Int) (t : Int) cf dt).length) c40), (15, .int .i64 ((left : Nat) : Int)), (16, .int .i64 ((j : Nat) : Int)), (17, .int .i64 ((k1 : Nat) : Int)), (18, .pointer (some ⟨b100, 0, none⟩)), (19, .bool R85.2.2.1)] (by kernel_rfl) ?_
        refine sw_seq ?_
        refine sw_region ?_  -- R19 law.go:146
        obtain ⟨b105, hb104, hi106⟩ := hH.row_idx 6 rfl k1 (by omega)
        refine gl_ops 2 [(2, .slice Ao zs.length co), (3, .pointer (some ⟨b1, 0, none⟩)), (8, .slice A14 (nch (splitB (i : Int) (t : Int) cf dt).length) c15), (10, .pointer (some ⟨xb18, 0, none⟩)), (11, .slice A30 (nch (splitB (i2 : Int) (t2 : Int) cf2 dt2).length) c31), (13, .bool older), (14, .slice A39 (nch (splitB (i : Int) (t : Int) cf dt).length) c40), (15, .int .i64 ((left : Nat) : Int)), (16, .int .i64 ((j : Nat) : Int)), (17, .int .i64 ((k1 : Nat) : Int)), (18, .pointer (some ⟨b100, 0, none⟩)), (19, .bool R85.2.2.1), (147, .slice A39 (nch (splitB (i : Int) (t : Int) cf dt).length) c40), (148, .int .i64 ((k1 : Nat) : Int))] (by kernel_rfl) ?_
        refine gl_q rfl rfl rfl (rd_idx (e := 4) (m := 1) (by kernel_rfl) (by kernel_rfl) rfl rfl hi106) ?_
        refine gl_q rfl rfl rfl (rd_loadO 6 (by kernel_rfl) hH rfl rfl hb104 (bools_at th k1 (by rw [hcol.len]; omega))) ?_
        refine gl_ops 1 [(2, .slice Ao zs.length co), (3, .pointer (some ⟨b1, 0, none⟩)), (8, .slice A14 (nch (splitB (i : Int) (t : Int) cf dt).length) c15), (10, .pointer (some ⟨xb18, 0, none⟩)), (11, .slice A30 (nch (splitB (i2 : Int) (t2 : Int) cf2 dt2).length) c31), (13, .bool older), (14, .slice A39 (nch (splitB (i : Int) (t : Int) cf dt).length) c40), (15, .int .i64 ((left : Nat) : Int)), (16, .int .i64 ((j : Nat) : Int)), (17, .int .i64 ((k1 : Nat) : Int)), (18, .pointer (some ⟨b100, 0, none⟩)), (19, .bool R85.2.2.1), (151, .bool (!(th.getD k1 false)))] (by kernel_rfl) ?_
        refine gl_done rfl ?_
        refine sw_next ?_
        refine sw_cond rfl rfl (fun hc17 => ?_) (fun hc17 => ?_)
        ·
          try simp only [decide_eq_true_eq, beq_iff_eq, bne_iff_ne, ne_eq, Bool.not_eq_true', beq_eq_false_iff_ne, bne_eq_false_iff_eq, decide_eq_false_iff_not, Int.not_lt, Int.not_le] at hc17
          obtain ⟨hpos, hcol2, his, hsn⟩ := hnew hc17
          have hle := hcol.le
          refine sw_seq ?_
          refine sw_region ?_  -- R20 law.go:147
          obtain ⟨b108, hb107, hi109⟩ := hH.row_idx 6 rfl k1 (by omega)
          refine gl_ops 2 [(2, .slice Ao zs.length co), (3, .pointer (some ⟨b1, 0, none⟩)), (8, .slice A14 (nch (splitB (i : Int) (t : Int) cf dt).length) c15), (10, .pointer (some ⟨xb18, 0, none⟩)), (11, .slice A30 (nch (splitB (i2 : Int) (t2 : Int) cf2 dt2).length) c31), (13, .bool older), (14, .slice A39 (nch (splitB (i : Int) (t : Int) cf dt).length) c40), (15, .int .i64 ((left : Nat) : Int)), (16, .int .i64 ((j : Nat) : Int)), (18, .pointer (some ⟨b100, 0, none⟩)), (19, .bool R85.2.2.1), (152, .slice A39 (nch (splitB (i : Int) (t : Int) cf dt).length) c40), (153, .int .i64 ((k1 : Nat) : Int))] (by kernel_rfl) ?_
          refine gl_q rfl rfl rfl (rd_idx (e := 4) (m := 1) (by kernel_rfl) (by kernel_rfl) rfl rfl hi109) ?_
          refine gl_st (st_storeO (u := .bool true) 6 rfl rfl rfl hH rfl rfl rfl (by kernel_rfl) rfl hb107 (by rw [List.length_map, hcol.len]; omega) ?_)
          clear hH; intro w110 hH
          replace hH := hH.row_eq 6 (l' := nch (splitB (i : Int) (t : Int) cf dt).length) (xs' := (th.set k1 true).map Value.bool) rfl (rfl) (bools_set th k1)
          refine gl_done rfl ?_
          refine sw_next ?_
          refine sw_seq ?_
          refine sw_region ?_  -- R21 law.go:148
          refine gl_ops 2 [(2, .slice Ao zs.length co), (3, .pointer (some ⟨b1, 0, none⟩)), (8, .slice A14 (nch (splitB (i : Int) (t : Int) cf dt).length) c15), (10, .pointer (some ⟨xb18, 0, none⟩)), (11, .slice A30 (nch (splitB (i2 : Int) (t2 : Int) cf2 dt2).length) c31), (13, .bool older), (14, .slice A39 (nch (splitB (i : Int) (t : Int) cf dt).length) c40), (16, .int .i64 ((j : Nat) : Int)), (18, .pointer (some ⟨b100, 0, none⟩)), (19, .bool R85.2.2.1), (156, .int .i64 (IntKind.i64.wrap (((left : Nat) : Int) - 1)))] (by kernel_rfl) ?_
          refine gl_cv 156 (.int .i64 ((left - 1 : Nat) : Int)) (cv_i64 (by omega)) rfl ?_
          refine gl_ops 1 [(2, .slice Ao zs.length co), (3, .pointer (some ⟨b1, 0, none⟩)), (8, .slice A14 (nch (splitB (i : Int) (t : Int) cf dt).length) c15), (10, .pointer (some ⟨xb18, 0, none⟩)), (11, .slice A30 (nch (splitB (i2 : Int) (t2 : Int) cf2 dt2).length) c31), (13, .bool older), (14, .slice A39 (nch (splitB (i : Int) (t : Int) cf dt).length) c40), (15, .int .i64 ((left - 1 : Nat) : Int)), (16, .int .i64 ((j : Nat) : Int)), (18, .pointer (some ⟨b100, 0, none⟩)), (19, .bool R85.2.2.1)] (by kernel_rfl) ?_
          refine gl_done rfl ?_
          refine sw_next ?_
          refine sw_seq ?_
          refine sw_region ?_  -- R22 law.go:149
          refine gl_ops 4 [(2, .slice Ao zs.length co), (3, .pointer (some ⟨b1, 0, none⟩)), (8, .slice A14 (nch (splitB (i : Int) (t : Int) cf dt).length) c15), (10, .pointer (some ⟨xb18, 0, none⟩)), (11, .slice A30 (nch (splitB (i2 : Int) (t2 : Int) cf2 dt2).length) c31), (13, .bool older), (14, .slice A39 (nch (splitB (i : Int) (t : Int) cf dt).length) c40), (15, .int .i64 ((left - 1 : Nat) : Int)), (16, .int .i64 ((j : Nat) : Int)), (18, .pointer (some ⟨b100, 0, none⟩)), (19, .bool R85.2.2.1), (160, .bool (R85.2.2.1 != (((left - 1 : Nat) : Int) == (0 : Int))))] (by kernel_rfl) ?_
          refine gl_cv 160 (.bool false) (by rw [his]; exact cv_left hpos) rfl ?_
          refine gl_ops 3 [(2, .slice Ao zs.length co), (3, .pointer (some ⟨b1, 0, none⟩)), (8, .slice A14 (nch (splitB (i : Int) (t : Int) cf dt).length) c15), (10, .pointer (some ⟨xb18, 0, none⟩)), (11, .slice A30 (nch (splitB (i2 : Int) (t2 : Int) cf2 dt2).length) c31), (13, .bool older), (14, .slice A39 (nch (splitB (i : Int) (t : Int) cf dt).length) c40), (15, .int .i64 ((left - 1 : Nat) : Int)), (16, .int .i64 ((j : Nat) : Int)), (18, .pointer (some ⟨b100, 0, none⟩)), (161, .bool false), (163, .bool R85.2.2.1)] (by kernel_rfl) ?_
          refine gl_split 163 (b := R85.2.2.1) rfl (fun hg18 => ?_) (fun hg18 => ?_)
          ·
            try simp only [decide_eq_true_eq, beq_iff_eq, bne_iff_ne, ne_eq, Bool.not_eq_true', beq_eq_false_iff_ne, bne_eq_false_iff_eq, decide_eq_false_iff_not, Int.not_lt, Int.not_le] at hg18
            have hl1 : left = 1 := by rw [his] at hg18; exact of_decide_eq_true hg18
            refine gl_q rfl rfl rfl (rd_loadKA (m := 4) 10 (by kernel_rfl) hH rfl rfl (by kernel_rfl) [.int .i64 R85.2.1.idx, .int .i64 R85.2.1.term, .slice A92 R85.2.1.conf.length c93, .slice A96 R85.2.1.data.length c97] rfl rfl) ?_
            refine gl_q rfl rfl rfl (rd_loadKA (m := 4) 0 (by kernel_rfl) hH rfl rfl (by kernel_rfl) [.int .i64 i, .int .i64 t, .slice Ac cf.length cc, .slice Ad dt.length cd] rfl rfl) ?_
            refine gl_st (st_call rfl rfl rfl (by kernel_rfl) rfl (Same_ct (R85.2.1.idx : Int) (R85.2.1.term : Int) (i : Int) (t : Int) _ _ _ _ R85.2.1.conf R85.2.1.data cf dt _ (rb_own hH 8 rfl) (rb_own hH 9 rfl) (kc.mono hH.zin) (kd.mono hH.zin)) ?_)
            rintro _ w111 ⟨rfl, hF112⟩
            replace hH := hH.call hF112; clear hF112
            refine gl_cv 166 (.bool true) (by rw [same_of (hsn hl1)]) rfl ?_
            refine gl_ops 3 [(2, .slice Ao zs.length co), (3, .pointer (some ⟨b1, 0, none⟩)), (8, .slice A14 (nch (splitB (i : Int) (t : Int) cf dt).length) c15), (10, .pointer (some ⟨xb18, 0, none⟩)), (11, .slice A30 (nch (splitB (i2 : Int) (t2 : Int) cf2 dt2).length) c31), (13, .bool older), (14, .slice A39 (nch (splitB (i : Int) (t : Int) cf dt).length) c40), (15, .int .i64 ((left - 1 : Nat) : Int)), (16, .int .i64 ((j : Nat) : Int)), (169, .bool false)] (by kernel_rfl) ?_
            refine gl_done rfl ?_
            refine sw_next ?_
            refine sw_false rfl rfl ?_
            refine sw_skip ?_
            refine bkN ?_
            refine sw_next ?_
            refine sw_region ?_  -- R12 law.go:136
            refine gl_ops 2 [(2, .slice Ao zs.length co), (3, .pointer (some ⟨b1, 0, none⟩)), (8, .slice A14 (nch (splitB (i : Int) (t : Int) cf dt).length) c15), (10, .pointer (some ⟨xb18, 0, none⟩)), (11, .slice A30 (nch (splitB (i2 : Int) (t2 : Int) cf2 dt2).length) c31), (13, .bool older), (14, .slice A39 (nch (splitB (i : Int) (t : Int) cf dt).length) c40), (15, .int .i64 ((left - 1 : Nat) : Int)), (94, .int .i64 (IntKind.i64.wrap (((j : Nat) : Int) + 1)))] (by kernel_rfl) ?_
            refine gl_cv 94 (.int .i64 ((j + 1 : Nat) : Int)) (cv_i64 (by omega)) rfl ?_
            refine gl_ops 1 [(2, .slice Ao zs.length co), (3, .pointer (some ⟨b1, 0, none⟩)), (8, .slice A14 (nch (splitB (i : Int) (t : Int) cf dt).length) c15), (10, .pointer (some ⟨xb18, 0, none⟩)), (11, .slice A30 (nch (splitB (i2 : Int) (t2 : Int) cf2 dt2).length) c31), (13, .bool older), (14, .slice A39 (nch (splitB (i : Int) (t : Int) cf dt).length) c40), (15, .int .i64 ((left - 1 : Nat) : Int)), (16, .int .i64 ((j + 1 : Nat) : Int))] (by kernel_rfl) ?_
            refine gl_done rfl ?_
            refine rnd_end (g := (j, left, th, S, nb, lm)) (j + 1, left - 1, (th.set k1 true), R85.1, nb81, l82) (by kernel_rfl) ?_ ?_
            replace hH : Hp w w111 (w.cell?) [] [.blk b1 24 [.int .i64 i, .int .i64 t, .slice Ac cf.length cc, .slice Ad dt.length cd], .blk b3 24 [.int .i64 i2, .int .i64 t2, .slice Ac2 cf2.length cc2, .slice Ad2 dt2.length cd2], .row (.slice A14 (nch (splitB (i : Int) (t : Int) cf dt).length) c15) 48 5 (nch (splitB (i : Int) (t : Int) cf dt).length) (partsC (i : Int) (t : Int) (nch (splitB (i : Int) (t : Int) cf dt).length) vs8), .grp (partOwn 5 (splitB (i : Int) (t : Int) cf dt) vs8), .row (.slice A30 (nch (splitB (i2 : Int) (t2 : Int) cf2 dt2).length) c31) 48 5 (nch (splitB (i2 : Int) (t2 : Int) cf2 dt2).length) (partsC (i2 : Int) (t2 : Int) (nch (splitB (i2 : Int) (t2 : Int) cf2 dt2).length) vs24), .grp (partOwn 5 (splitB (i2 : Int) (t2 : Int) cf2 dt2) vs24), .row (.slice A39 (nch (splitB (i : Int) (t : Int) cf dt).length) c40) 4 1 (nch (splitB (i : Int) (t : Int) cf dt).length) ((th.set k1 true).map Value.bool), .grp (ibxO xb18 nb81 mb19 R85.1 l82), .row (.slice A92 R85.2.1.conf.length c93) 5 1 R85.2.1.conf.length (bv R85.2.1.conf), .row (.slice A96 R85.2.1.data.length c97) 5 1 R85.2.1.data.length (bv R85.2.1.data), .blk b100 24 [.int .i64 R85.2.1.idx, .int .i64 R85.2.1.term, .slice A92 R85.2.1.conf.length c93, .slice A96 R85.2.1.data.length c97]] := hH
            · exact ⟨by omega, hcol2, hf87, ((hH.pick [0, 1, 2, 3, 7, 4, 5, 6, 8, 9, 10] (by kernel_rfl) (os' := [.blk b1 24 [.int .i64 i, .int .i64 t, .slice Ac cf.length cc, .slice Ad dt.length cd], .blk b3 24 [.int .i64 i2, .int .i64 t2, .slice Ac2 cf2.length cc2, .slice Ad2 dt2.length cd2], .row (.slice A14 (nch (splitB (i : Int) (t : Int) cf dt).length) c15) 48 5 (nch (splitB (i : Int) (t : Int) cf dt).length) (partsC (i : Int) (t : Int) (nch (splitB (i : Int) (t : Int) cf dt).length) vs8), .grp (partOwn 5 (splitB (i : Int) (t : Int) cf dt) vs8), .grp (ibxO xb18 nb81 mb19 R85.1 l82), .row (.slice A30 (nch (splitB (i2 : Int) (t2 : Int) cf2 dt2).length) c31) 48 5 (nch (splitB (i2 : Int) (t2 : Int) cf2 dt2).length) (partsC (i2 : Int) (t2 : Int) (nch (splitB (i2 : Int) (t2 : Int) cf2 dt2).length) vs24), .grp (partOwn 5 (splitB (i2 : Int) (t2 : Int) cf2 dt2) vs24), .row (.slice A39 (nch (splitB (i : Int) (t : Int) cf dt).length) c40) 4 1 (nch (splitB (i : Int) (t : Int) cf dt).length) ((th.set k1 true).map Value.bool), .row (.slice A92 R85.2.1.conf.length c93) 5 1 R85.2.1.conf.length (bv R85.2.1.conf), .row (.slice A96 R85.2.1.data.length c97) 5 1 R85.2.1.data.length (bv R85.2.1.data), .blk b100 24 [.int .i64 R85.2.1.idx, .int .i64 R85.2.1.term, .slice A92 R85.2.1.conf.length c93, .slice A96 R85.2.1.data.length c97]]) (by kernel_rfl)).sublist (.cons_cons _ (.cons_cons _ (.cons_cons _ (.cons_cons _ (.cons_cons _ (.cons_cons _ (.cons_cons _ (.cons_cons _ (List.nil_sublist _))))))))))⟩
            · show 3000 - (j + 1) < 3000 - j; omega
          try simp only [decide_eq_false_iff_not, beq_eq_false_iff_ne, bne_eq_false_iff_eq, ne_eq, Decidable.not_not, Int.not_lt, Int.not_le, Bool.not_eq_false', beq_iff_eq, bne_iff_ne, decide_eq_true_eq] at hg18
          refine gl_ops 6 [(2, .slice Ao zs.length co), (3, .pointer (some ⟨b1, 0, none⟩)), (8, .slice A14 (nch (splitB (i : Int) (t : Int) cf dt).length) c15), (10, .pointer (some ⟨xb18, 0, none⟩)), (11, .slice A30 (nch (splitB (i2 : Int) (t2 : Int) cf2 dt2).length) c31), (13, .bool older), (14, .slice A39 (nch (splitB (i : Int) (t : Int) cf dt).length) c40), (15, .int .i64 ((left - 1 : Nat) : Int)), (16, .int .i64 ((j : Nat) : Int)), (169, .bool false)] (by kernel_rfl) ?_
          refine gl_done rfl ?_
          refine sw_next ?_
          refine sw_false rfl rfl ?_
          refine sw_skip ?_
          refine bkN ?_
          refine sw_next ?_
          refine sw_region ?_  -- R12 law.go:136
          refine gl_ops 2 [(2, .slice Ao zs.length co), (3, .pointer (some ⟨b1, 0, none⟩)), (8, .slice A14 (nch (splitB (i : Int) (t : Int) cf dt).length) c15), (10, .pointer (some ⟨xb18, 0, none⟩)), (11, .slice A30 (nch (splitB (i2 : Int) (t2 : Int) cf2 dt2).length) c31), (13, .bool older), (14, .slice A39 (nch (splitB (i : Int) (t : Int) cf dt).length) c40), (15, .int .i64 ((left - 1 : Nat) : Int)), (94, .int .i64 (IntKind.i64.wrap (((j : Nat) : Int) + 1)))] (by kernel_rfl) ?_
          refine gl_cv 94 (.int .i64 ((j + 1 : Nat) : Int)) (cv_i64 (by omega)) rfl ?_
          refine gl_ops 1 [(2, .slice Ao zs.length co), (3, .pointer (some ⟨b1, 0, none⟩)), (8, .slice A14 (nch (splitB (i : Int) (t : Int) cf dt).length) c15), (10, .pointer (some ⟨xb18, 0, none⟩)), (11, .slice A30 (nch (splitB (i2 : Int) (t2 : Int) cf2 dt2).length) c31), (13, .bool older), (14, .slice A39 (nch (splitB (i : Int) (t : Int) cf dt).length) c40), (15, .int .i64 ((left - 1 : Nat) : Int)), (16, .int .i64 ((j + 1 : Nat) : Int))] (by kernel_rfl) ?_
          refine gl_done rfl ?_
          refine rnd_end (g := (j, left, th, S, nb, lm)) (j + 1, left - 1, (th.set k1 true), R85.1, nb81, l82) (by kernel_rfl) ?_ ?_
          replace hH : Hp w w110 (w.cell?) [] [.blk b1 24 [.int .i64 i, .int .i64 t, .slice Ac cf.length cc, .slice Ad dt.length cd], .blk b3 24 [.int .i64 i2, .int .i64 t2, .slice Ac2 cf2.length cc2, .slice Ad2 dt2.length cd2], .row (.slice A14 (nch (splitB (i : Int) (t : Int) cf dt).length) c15) 48 5 (nch (splitB (i : Int) (t : Int) cf dt).length) (partsC (i : Int) (t : Int) (nch (splitB (i : Int) (t : Int) cf dt).length) vs8), .grp (partOwn 5 (splitB (i : Int) (t : Int) cf dt) vs8), .row (.slice A30 (nch (splitB (i2 : Int) (t2 : Int) cf2 dt2).length) c31) 48 5 (nch (splitB (i2 : Int) (t2 : Int) cf2 dt2).length) (partsC (i2 : Int) (t2 : Int) (nch (splitB (i2 : Int) (t2 : Int) cf2 dt2).length) vs24), .grp (partOwn 5 (splitB (i2 : Int) (t2 : Int) cf2 dt2) vs24), .row (.slice A39 (nch (splitB (i : Int) (t : Int) cf dt).length) c40) 4 1 (nch (splitB (i : Int) (t : Int) cf dt).length) ((th.set k1 true).map Value.bool), .grp (ibxO xb18 nb81 mb19 R85.1 l82), .row (.slice A92 R85.2.1.conf.length c93) 5 1 R85.2.1.conf.length (bv R85.2.1.conf), .row (.slice A96 R85.2.1.data.length c97) 5 1 R85.2.1.data.length (bv R85.2.1.data), .blk b100 24 [.int .i64 R85.2.1.idx, .int .i64 R85.2.1.term, .slice A92 R85.2.1.conf.length c93, .slice A96 R85.2.1.data.length c97]] := hH
          · exact ⟨by omega, hcol2, hf87, ((hH.pick [0, 1, 2, 3, 7, 4, 5, 6, 8, 9, 10] (by kernel_rfl) (os' := [.blk b1 24 [.int .i64 i, .int .i64 t, .slice Ac cf.length cc, .slice Ad dt.length cd], .blk b3 24 [.int .i64 i2, .int .i64 t2, .slice Ac2 cf2.length cc2, .slice Ad2 dt2.length cd2], .row (.slice A14 (nch (splitB (i : Int) (t : Int) cf dt).length) c15) 48 5 (nch (splitB (i : Int) (t : Int) cf dt).length) (partsC (i : Int) (t : Int) (nch (splitB (i : Int) (t : Int) cf dt).length) vs8), .grp (partOwn 5 (splitB (i : Int) (t : Int) cf dt) vs8), .grp (ibxO xb18 nb81 mb19 R85.1 l82), .row (.slice A30 (nch (splitB (i2 : Int) (t2 : Int) cf2 dt2).length) c31) 48 5 (nch (splitB (i2 : Int) (t2 : Int) cf2 dt2).length) (partsC (i2 : Int) (t2 : Int) (nch (splitB (i2 : Int) (t2 : Int) cf2 dt2).length) vs24), .grp (partOwn 5 (splitB (i2 : Int) (t2 : Int) cf2 dt2) vs24), .row (.slice A39 (nch (splitB (i : Int) (t : Int) cf dt).length) c40) 4 1 (nch (splitB (i : Int) (t : Int) cf dt).length) ((th.set k1 true).map Value.bool), .row (.slice A92 R85.2.1.conf.length c93) 5 1 R85.2.1.conf.length (bv R85.2.1.conf), .row (.slice A96 R85.2.1.data.length c97) 5 1 R85.2.1.data.length (bv R85.2.1.data), .blk b100 24 [.int .i64 R85.2.1.idx, .int .i64 R85.2.1.term, .slice A92 R85.2.1.conf.length c93, .slice A96 R85.2.1.data.length c97]]) (by kernel_rfl)).sublist (.cons_cons _ (.cons_cons _ (.cons_cons _ (.cons_cons _ (.cons_cons _ (.cons_cons _ (.cons_cons _ (.cons_cons _ (List.nil_sublist _))))))))))⟩
          · show 3000 - (j + 1) < 3000 - j; omega
        try simp only [decide_eq_false_iff_not, beq_eq_false_iff_ne, bne_eq_false_iff_eq, ne_eq, Decidable.not_not, Int.not_lt, Int.not_le, Bool.not_eq_false', beq_iff_eq, bne_iff_ne, decide_eq_true_eq] at hc17
        have hcol2 := (hwas hc17).1
        refine sw_skip ?_
        refine bkN ?_
        refine sw_next ?_
        refine sw_region ?_  -- R12 law.go:136
        refine gl_ops 2 [(2, .slice Ao zs.length co), (3, .pointer (some ⟨b1, 0, none⟩)), (8, .slice A14 (nch (splitB (i : Int) (t : Int) cf dt).length) c15), (10, .pointer (some ⟨xb18, 0, none⟩)), (11, .slice A30 (nch (splitB (i2 : Int) (t2 : Int) cf2 dt2).length) c31), (13, .bool older), (14, .slice A39 (nch (splitB (i : Int) (t : Int) cf dt).length) c40), (15, .int .i64 ((left : Nat) : Int)), (94, .int .i64 (IntKind.i64.wrap (((j : Nat) : Int) + 1)))] (by kernel_rfl) ?_
        refine gl_cv 94 (.int .i64 ((j + 1 : Nat) : Int)) (cv_i64 (by omega)) rfl ?_
        refine gl_ops 1 [(2, .slice Ao zs.length co), (3, .pointer (some ⟨b1, 0, none⟩)), (8, .slice A14 (nch (splitB (i : Int) (t : Int) cf dt).length) c15), (10, .pointer (some ⟨xb18, 0, none⟩)), (11, .slice A30 (nch (splitB (i2 : Int) (t2 : Int) cf2 dt2).length) c31), (13, .bool older), (14, .slice A39 (nch (splitB (i : Int) (t : Int) cf dt).length) c40), (15, .int .i64 ((left : Nat) : Int)), (16, .int .i64 ((j + 1 : Nat) : Int))] (by kernel_rfl) ?_
        refine gl_done rfl ?_
        refine rnd_end (g := (j, left, th, S, nb, lm)) (j + 1, left, th, R85.1, nb81, l82) (by kernel_rfl) ?_ ?_
        replace hH : Hp w w103 (w.cell?) [] [.blk b1 24 [.int .i64 i, .int .i64 t, .slice Ac cf.length cc, .slice Ad dt.length cd], .blk b3 24 [.int .i64 i2, .int .i64 t2, .slice Ac2 cf2.length cc2, .slice Ad2 dt2.length cd2], .row (.slice A14 (nch (splitB (i : Int) (t : Int) cf dt).length) c15) 48 5 (nch (splitB (i : Int) (t : Int) cf dt).length) (partsC (i : Int) (t : Int) (nch (splitB (i : Int) (t : Int) cf dt).length) vs8), .grp (partOwn 5 (splitB (i : Int) (t : Int) cf dt) vs8), .row (.slice A30 (nch (splitB (i2 : Int) (t2 : Int) cf2 dt2).length) c31) 48 5 (nch (splitB (i2 : Int) (t2 : Int) cf2 dt2).length) (partsC (i2 : Int) (t2 : Int) (nch (splitB (i2 : Int) (t2 : Int) cf2 dt2).length) vs24), .grp (partOwn 5 (splitB (i2 : Int) (t2 : Int) cf2 dt2) vs24), .row (.slice A39 (nch (splitB (i : Int) (t : Int) cf dt).length) c40) 4 1 (nch (splitB (i : Int) (t : Int) cf dt).length) (th.map Value.bool), .grp (ibxO xb18 nb81 mb19 R85.1 l82), .row (.slice A92 R85.2.1.conf.length c93) 5 1 R85.2.1.conf.length (bv R85.2.1.conf), .row (.slice A96 R85.2.1.data.length c97) 5 1 R85.2.1.data.length (bv R85.2.1.data), .blk b100 24 [.int .i64 R85.2.1.idx, .int .i64 R85.2.1.term, .slice A92 R85.2.1.conf.length c93, .slice A96 R85.2.1.data.length c97]] := hH
        · exact ⟨by omega, hcol2, hf87, ((hH.pick [0, 1, 2, 3, 7, 4, 5, 6, 8, 9, 10] (by kernel_rfl) (os' := [.blk b1 24 [.int .i64 i, .int .i64 t, .slice Ac cf.length cc, .slice Ad dt.length cd], .blk b3 24 [.int .i64 i2, .int .i64 t2, .slice Ac2 cf2.length cc2, .slice Ad2 dt2.length cd2], .row (.slice A14 (nch (splitB (i : Int) (t : Int) cf dt).length) c15) 48 5 (nch (splitB (i : Int) (t : Int) cf dt).length) (partsC (i : Int) (t : Int) (nch (splitB (i : Int) (t : Int) cf dt).length) vs8), .grp (partOwn 5 (splitB (i : Int) (t : Int) cf dt) vs8), .grp (ibxO xb18 nb81 mb19 R85.1 l82), .row (.slice A30 (nch (splitB (i2 : Int) (t2 : Int) cf2 dt2).length) c31) 48 5 (nch (splitB (i2 : Int) (t2 : Int) cf2 dt2).length) (partsC (i2 : Int) (t2 : Int) (nch (splitB (i2 : Int) (t2 : Int) cf2 dt2).length) vs24), .grp (partOwn 5 (splitB (i2 : Int) (t2 : Int) cf2 dt2) vs24), .row (.slice A39 (nch (splitB (i : Int) (t : Int) cf dt).length) c40) 4 1 (nch (splitB (i : Int) (t : Int) cf dt).length) (th.map Value.bool), .row (.slice A92 R85.2.1.conf.length c93) 5 1 R85.2.1.conf.length (bv R85.2.1.conf), .row (.slice A96 R85.2.1.data.length c97) 5 1 R85.2.1.data.length (bv R85.2.1.data), .blk b100 24 [.int .i64 R85.2.1.idx, .int .i64 R85.2.1.term, .slice A92 R85.2.1.conf.length c93, .slice A96 R85.2.1.data.length c97]]) (by kernel_rfl)).sublist (.cons_cons _ (.cons_cons _ (.cons_cons _ (.cons_cons _ (.cons_cons _ (.cons_cons _ (.cons_cons _ (.cons_cons _ (List.nil_sublist _))))))))))⟩
        · show 3000 - (j + 1) < 3000 - j; omega
      try simp only [decide_eq_false_iff_not, beq_eq_false_iff_ne, bne_eq_false_iff_eq, ne_eq, Decidable.not_not, Int.not_lt, Int.not_le, Bool.not_eq_false', beq_iff_eq, bne_iff_ne, decide_eq_true_eq] at hc8
      refine sw_exit ?_
      refine thX ?_
      refine thX ?_
      refine bkH ?_
      refine cut_end (left, th, S, nb, lm) (Sub.of_eq (by kernel_rfl)) ?_
      exact ⟨hcol, hfit, hH⟩
    try simp only [decide_eq_false_iff_not, beq_eq_false_iff_ne, bne_eq_false_iff_eq, ne_eq, Decidable.not_not, Int.not_lt, Int.not_le, Bool.not_eq_false', beq_iff_eq, bne_iff_ne, decide_eq_true_eq] at hg7
    refine gl_ops 3 [(2, .slice Ao zs.length co), (3, .pointer (some ⟨b1, 0, none⟩)), (8, .slice A14 (nch (splitB (i : Int) (t : Int) cf dt).length) c15), (10, .pointer (some ⟨xb18, 0, none⟩)), (11, .slice A30 (nch (splitB (i2 : Int) (t2 : Int) cf2 dt2).length) c31), (13, .bool older), (14, .slice A39 (nch (splitB (i : Int) (t : Int) cf dt).length) c40), (15, .int .i64 ((left : Nat) : Int)), (16, .int .i64 ((j : Nat) : Int)), (92, .bool false)] (by kernel_rfl) ?_
    refine gl_done rfl ?_
    refine sw_next ?_
    refine sw_false rfl rfl ?_
    refine sw_exit ?_
    refine thX ?_
    refine thX ?_
    refine bkH ?_
    refine cut_end (left, th, S, nb, lm) (Sub.of_eq (by kernel_rfl)) ?_
    exact ⟨hcol, hfit, hH⟩
  clear hH
  rintro ⟨left, th, S, nb, lm⟩ w113 ⟨hcol, hfit, hH⟩
  refine sw_keep [(3, .pointer (some ⟨b1, 0, none⟩)), (8, .slice A14 (nch (splitB (i : Int) (t : Int) cf dt).length) c15), (10, .pointer (some ⟨xb18, 0, none⟩)), (14, .slice A39 (nch (splitB (i : Int) (t : Int) cf dt).length) c40), (15, .int .i64 ((left : Nat) : Int))] (by kernel_rfl) ?_
  refine sw_seq ?_
  refine sw_seq ?_
  refine sw_region ?_  -- R24 law.go:154
  refine gl_ops 1 [(3, .pointer (some ⟨b1, 0, none⟩)), (8, .slice A14 (nch (splitB (i : Int) (t : Int) cf dt).length) c15), (10, .pointer (some ⟨xb18, 0, none⟩)), (14, .slice A39 (nch (splitB (i : Int) (t : Int) cf dt).length) c40), (15, .int .i64 ((left : Nat) : Int)), (21, .int .i64 0)] (by kernel_rfl) ?_
  refine gl_done rfl ?_
  refine sw_next ?_
  refine sw_block ?_
  refine sw_loop (γ := Nat × Nat × List Bool × Ibx × Nat × List (Int × Value)) (fun (j, left2, th2, S2, nb2, lm2) => [(3, .pointer (some ⟨b1, 0, none⟩)), (8, .slice A14 (nch (splitB (i : Int) (t : Int) cf dt).length) c15), (10, .pointer (some ⟨xb18, 0, none⟩)), (14, .slice A39 (nch (splitB (i : Int) (t : Int) cf dt).length) c40), (15, .int .i64 ((left2 : Nat) : Int)), (21, .int .i64 ((j : Nat) : Int))]) (fun (j, left2, th2, S2, nb2, lm2) w_ => (j ≤ nch (splitB (i : Int) (t : Int) cf dt).length) ∧ (Col i t cf dt (splitB (i : Int) (t : Int) cf dt) th2 left2 S2) ∧ (Ibx.Fit S2 lm2) ∧ (∀ q : Nat, th2.getD q false = (th.getD q false || decide (q < j))) ∧ Hp w w_ (w.cell?) [] [.blk b1 24 [.int .i64 i, .int .i64 t, .slice Ac cf.length cc, .slice Ad dt.length cd], .blk b3 24 [.int .i64 i2, .int .i64 t2, .slice Ac2 cf2.length cc2, .slice Ad2 dt2.length cd2], .row (.slice A14 (nch (splitB (i : Int) (t : Int) cf dt).length) c15) 48 5 (nch (splitB (i : Int) (t : Int) cf dt).length) (partsC (i : Int) (t : Int) (nch (splitB (i : Int) (t : Int) cf dt).length) vs8), .grp (partOwn 5 (splitB (i : Int) (t : Int) cf dt) vs8), .grp (ibxO xb18 nb2 mb19 S2 lm2), .row (.slice A30 (nch (splitB (i2 : Int) (t2 : Int) cf2 dt2).length) c31) 48 5 (nch (splitB (i2 : Int) (t2 : Int) cf2 dt2).length) (partsC (i2 : Int) (t2 : Int) (nch (splitB (i2 : Int) (t2 : Int) cf2 dt2).length) vs24), .grp (partOwn 5 (splitB (i2 : Int) (t2 : Int) cf2 dt2) vs24), .row (.slice A39 (nch (splitB (i : Int) (t : Int) cf dt).length) c40) 4 1 (nch (splitB (i : Int) (t : Int) cf dt).length) (th.map Value.bool)]) (fun (j, left2, th2, S2, nb2, lm2) => nch (splitB (i : Int) (t : Int) cf dt).length - j) (0, left, th, S, nb, lm) (Sub.of_eq (by kernel_rfl)) ?_ ?_
  · exact ⟨by omega, hcol, hfit, fun q => by simp, hH⟩
  clear hH
  rintro ⟨j, left2, th2, S2, nb2, lm2⟩ w114 ⟨hj, hcolb, hfit2, hth, hH⟩
  refine sw_keep [(3, .pointer (some ⟨b1, 0, none⟩)), (8, .slice A14 (nch (splitB (i : Int) (t : Int) cf dt).length) c15), (10, .pointer (some ⟨xb18, 0, none⟩)), (14, .slice A39 (nch (splitB (i : Int) (t : Int) cf dt).length) c40), (15, .int .i64 ((left2 : Nat) : Int)), (21, .int .i64 ((j : Nat) : Int))] (by kernel_rfl) ?_
  refine sw_seq ?_
  refine sw_seq ?_
  refine sw_region ?_  -- R25 law.go:154
  refine gl_ops 2 [(3, .pointer (some ⟨b1, 0, none⟩)), (8, .slice A14 (nch (splitB (i : Int) (t : Int) cf dt).length) c15), (10, .pointer (some ⟨xb18, 0, none⟩)), (14, .slice A39 (nch (splitB (i : Int) (t : Int) cf dt).length) c40), (15, .int .i64 ((left2 : Nat) : Int)), (21, .int .i64 ((j : Nat) : Int)), (170, .int .i64 ((j : Nat) : Int)), (171, .slice A14 (nch (splitB (i : Int) (t : Int) cf dt).length) c15)] (by kernel_rfl) ?_
  refine gl_q rfl rfl rfl (rd_len (e := 48) (by kernel_rfl) rfl) ?_
  refine gl_ops 2 [(3, .pointer (some ⟨b1, 0, none⟩)), (8, .slice A14 (nch (splitB (i : Int) (t : Int) cf dt).length) c15), (10, .pointer (some ⟨xb18, 0, none⟩)), (14, .slice A39 (nch (splitB (i : Int) (t : Int) cf dt).length) c40), (15, .int .i64 ((left2 : Nat) : Int)), (21, .int .i64 ((j : Nat) : Int)), (174, .bool (decide (((j : Nat) : Int) < ((nch (splitB (i : Int) (t : Int) cf dt).length : Nat) : Int))))] (by kernel_rfl) ?_
  refine gl_split 174 (b := decide (((j : Nat) : Int) < ((nch (splitB (i : Int) (t : Int) cf dt).length : Nat) : Int))) rfl (fun hg22 => ?_) (fun hg22 => ?_)
  ·
    try simp only [decide_eq_true_eq, beq_iff_eq, bne_iff_ne, ne_eq, Bool.not_eq_true', beq_eq_false_iff_ne, bne_eq_false_iff_eq, decide_eq_false_iff_not, Int.not_lt, Int.not_le] at hg22
    refine gl_ops 3 [(3, .pointer (some ⟨b1, 0, none⟩)), (8, .slice A14 (nch (splitB (i : Int) (t : Int) cf dt).length) c15), (10, .pointer (some ⟨xb18, 0, none⟩)), (14, .slice A39 (nch (splitB (i : Int) (t : Int) cf dt).length) c40), (15, .int .i64 ((left2 : Nat) : Int)), (21, .int .i64 ((j : Nat) : Int)), (177, .bool (decide (((left2 : Nat) : Int) > (0 : Int))))] (by kernel_rfl) ?_
    refine gl_done rfl ?_
    refine sw_next ?_
    refine sw_cond rfl rfl (fun hc23 => ?_) (fun hc23 => ?_)
    ·
      try simp only [decide_eq_true_eq, beq_iff_eq, bne_iff_ne, ne_eq, Bool.not_eq_true', beq_eq_false_iff_ne, bne_eq_false_iff_eq, decide_eq_false_iff_not, Int.not_lt, Int.not_le] at hc23
      refine sw_skip ?_
      refine sw_next ?_
      refine sw_seq ?_
      refine sw_block ?_
      refine sw_seq ?_
      refine sw_region ?_  -- R27 law.go:155
      obtain ⟨b116, hb115, hi117⟩ := hH.row_idx 2 rfl j (by omega)
      refine gl_ops 3 [(3, .pointer (some ⟨b1, 0, none⟩)), (8, .slice A14 (nch (splitB (i : Int) (t : Int) cf dt).length) c15), (10, .pointer (some ⟨xb18, 0, none⟩)), (14, .slice A39 (nch (splitB (i : Int) (t : Int) cf dt).length) c40), (15, .int .i64 ((left2 : Nat) : Int)), (21, .int .i64 ((j : Nat) : Int)), (181, .pointer (some ⟨xb18, 0, none⟩)), (182, .slice A14 (nch (splitB (i : Int) (t : Int) cf dt).length) c15), (183, .int .i64 ((j : Nat) : Int))] (by kernel_rfl) ?_
      refine gl_q rfl rfl rfl (rd_idx (e := 48) (m := 5) (by kernel_rfl) (by kernel_rfl) rfl rfl hi117) ?_
      refine gl_q rfl rfl rfl (rd_loadOA (q := 5) 2 (by kernel_rfl) hH rfl rfl hb115 (by kernel_rfl) [.int .i64 i, .int .i64 t, .int .i64 ((j : Nat) : Int), .int .i64 ((nch (splitB (i : Int) (t : Int) cf dt).length : Nat) : Int), (vs8.getD j undef)] rfl (partsC_all (i : Int) (t : Int) (nch (splitB (i : Int) (t : Int) cf dt).length) vs8 j (by rw [hl9]; omega))) ?_
      replace hH : Hp w w114 (w.cell?) [] [.blk b1 24 [.int .i64 i, .int .i64 t, .slice Ac cf.length cc, .slice Ad dt.length cd], .blk b3 24 [.int .i64 i2, .int .i64 t2, .slice Ac2 cf2.length cc2, .slice Ad2 dt2.length cd2], .row (.slice A14 (nch (splitB (i : Int) (t : Int) cf dt).length) c15) 48 5 (nch (splitB (i : Int) (t : Int) cf dt).length) (partsC (i : Int) (t : Int) (nch (splitB (i : Int) (t : Int) cf dt).length) vs8), .grp (partOwn 5 (splitB (i : Int) (t : Int) cf dt) vs8), .grp (ibxO xb18 nb2 mb19 S2 lm2), .row (.slice A30 (nch (splitB (i2 : Int) (t2 : Int) cf2 dt2).length) c31) 48 5 (nch (splitB (i2 : Int) (t2 : Int) cf2 dt2).length) (partsC (i2 : Int) (t2 : Int) (nch (splitB (i2 : Int) (t2 : Int) cf2 dt2).length) vs24), .grp (partOwn 5 (splitB (i2 : Int) (t2 : Int) cf2 dt2) vs24), .row (.slice A39 (nch (splitB (i : Int) (t : Int) cf dt).length) c40) 4 1 (nch (splitB (i : Int) (t : Int) cf dt).length) (th.map Value.bool)] := hH
      replace hH := hH.pick [4, 0, 1, 2, 3, 5, 6, 7] (by kernel_rfl) (os' := [.grp (ibxO xb18 nb2 mb19 S2 lm2), .blk b1 24 [.int .i64 i, .int .i64 t, .slice Ac cf.length cc, .slice Ad dt.length cd], .blk b3 24 [.int .i64 i2, .int .i64 t2, .slice Ac2 cf2.length cc2, .slice Ad2 dt2.length cd2], .row (.slice A14 (nch (splitB (i : Int) (t : Int) cf dt).length) c15) 48 5 (nch (splitB (i : Int) (t : Int) cf dt).length) (partsC (i : Int) (t : Int) (nch (splitB (i : Int) (t : Int) cf dt).length) vs8), .grp (partOwn 5 (splitB (i : Int) (t : Int) cf dt) vs8), .row (.slice A30 (nch (splitB (i2 : Int) (t2 : Int) cf2 dt2).length) c31) 48 5 (nch (splitB (i2 : Int) (t2 : Int) cf2 dt2).length) (partsC (i2 : Int) (t2 : Int) (nch (splitB (i2 : Int) (t2 : Int) cf2 dt2).length) vs24), .grp (partOwn 5 (splitB (i2 : Int) (t2 : Int) cf2 dt2) vs24), .row (.slice A39 (nch (splitB (i : Int) (t : Int) cf dt).length) c40) 4 1 (nch (splitB (i : Int) (t : Int) cf dt).length) (th.map Value.bool)]) (by kernel_rfl)
      replace hH : Hp w w114 (w.cell?) [] ([.grp (ibxO xb18 nb2 mb19 S2 lm2)] ++ [.blk b1 24 [.int .i64 i, .int .i64 t, .slice Ac cf.length cc, .slice Ad dt.length cd], .blk b3 24 [.int .i64 i2, .int .i64 t2, .slice Ac2 cf2.length cc2, .slice Ad2 dt2.length cd2], .row (.slice A14 (nch (splitB (i : Int) (t : Int) cf dt).length) c15) 48 5 (nch (splitB (i : Int) (t : Int) cf dt).length) (partsC (i : Int) (t : Int) (nch (splitB (i : Int) (t : Int) cf dt).length) vs8), .grp (partOwn 5 (splitB (i : Int) (t : Int) cf dt) vs8), .row (.slice A30 (nch (splitB (i2 : Int) (t2 : Int) cf2 dt2).length) c31) 48 5 (nch (splitB (i2 : Int) (t2 : Int) cf2 dt2).length) (partsC (i2 : Int) (t2 : Int) (nch (splitB (i2 : Int) (t2 : Int) cf2 dt2).length) vs24), .grp (partOwn 5 (splitB (i2 : Int) (t2 : Int) cf2 dt2) vs24), .row (.slice A39 (nch (splitB (i : Int) (t : Int) cf dt).length) c40) 4 1 (nch (splitB (i : Int) (t : Int) cf dt).length) (th.map Value.bool)]) := hH
      refine gl_st (st_call rfl rfl rfl (by kernel_rfl) rfl (Put_ct _ _ _ S2 _ (partP (i : Int) (t : Int) (splitB (i : Int) (t : Int) cf dt) j) _ _ hH.mine (part_off hH 3 rfl j (by rw [hl9]; omega)) (hW1.i64 j (by omega)) hfit2) ?_)
      rintro _ w128 ⟨nv118, nb119, l120, v121, v122, R123, rfl, hR124, hf125, hF129⟩
      replace hH := hH.turns hF129; clear hF129
      replace hH : Hp w w128 (w.cell?) [] [.blk b1 24 [.int .i64 i, .int .i64 t, .slice Ac cf.length cc, .slice Ad dt.length cd], .blk b3 24 [.int .i64 i2, .int .i64 t2, .slice Ac2 cf2.length cc2, .slice Ad2 dt2.length cd2], .row (.slice A14 (nch (splitB (i : Int) (t : Int) cf dt).length) c15) 48 5 (nch (splitB (i : Int) (t : Int) cf dt).length) (partsC (i : Int) (t : Int) (nch (splitB (i : Int) (t : Int) cf dt).length) vs8), .grp (partOwn 5 (splitB (i : Int) (t : Int) cf dt) vs8), .row (.slice A30 (nch (splitB (i2 : Int) (t2 : Int) cf2 dt2).length) c31) 48 5 (nch (splitB (i2 : Int) (t2 : Int) cf2 dt2).length) (partsC (i2 : Int) (t2 : Int) (nch (splitB (i2 : Int) (t2 : Int) cf2 dt2).length) vs24), .grp (partOwn 5 (splitB (i2 : Int) (t2 : Int) cf2 dt2) vs24), .row (.slice A39 (nch (splitB (i : Int) (t : Int) cf dt).length) c40) 4 1 (nch (splitB (i : Int) (t : Int) cf dt).length) (th.map Value.bool), .grp (ibxO xb18 nb119 mb19 R123.1 l120), .row v121 5 1 R123.2.1.conf.length (bv R123.2.1.conf), .row v122 5 1 R123.2.1.data.length (bv R123.2.1.data)] := hH
      obtain ⟨hwas, hnew⟩ := col_put hW1 hcolb j (by omega) hR124
      obtain ⟨A130, c131, rfl, hl132, hm133⟩ := hH.row_form 8 rfl
      obtain ⟨A134, c135, rfl, hl136, hm137⟩ := hH.row_form 9 rfl
      refine gl_ops 4 [(3, .pointer (some ⟨b1, 0, none⟩)), (8, .slice A14 (nch (splitB (i : Int) (t : Int) cf dt).length) c15), (10, .pointer (some ⟨xb18, 0, none⟩)), (14, .slice A39 (nch (splitB (i : Int) (t : Int) cf dt).length) c40), (15, .int .i64 ((left2 : Nat) : Int)), (21, .int .i64 ((j : Nat) : Int)), (187, .agg #[.int .i64 R123.2.1.idx, .int .i64 R123.2.1.term, .slice A130 R123.2.1.conf.length c131, .slice A134 R123.2.1.data.length c135]), (188, .bool R123.2.2.1), (189, errV R123.2.2.2)] (by kernel_rfl) ?_
      refine gl_st (st_allocH rfl rfl rfl (cs := [.int .i64 0, .int .i64 0, .slice none 0 0, .slice none 0 0]) (by kernel_rfl) hH ?_)
      clear hH; intro b138 w139 hH
      refine gl_st (st_storeKA (vs := [.int .i64 R123.2.1.idx, .int .i64 R123.2.1.term, .slice A130 R123.2.1.conf.length c131, .slice A134 R123.2.1.data.length c135]) 10 rfl rfl rfl hH rfl rfl (by kernel_rfl) (by kernel_rfl) rfl (by simp) [.int .i64 R123.2.1.idx, .int .i64 R123.2.1.term, .slice A130 R123.2.1.conf.length c131, .slice A134 R123.2.1.data.length c135] rfl ?_)
      clear hH; intro w140 hH
      refine gl_ops 2 [(3, .pointer (some ⟨b1, 0, none⟩)), (8, .slice A14 (nch (splitB (i : Int) (t : Int) cf dt).length) c15), (10, .pointer (some ⟨xb18, 0, none⟩)), (14, .slice A39 (nch (splitB (i : Int) (t : Int) cf dt).length) c40), (15, .int .i64 ((left2 : Nat) : Int)), (21, .int .i64 ((j : Nat) : Int)), (22, .pointer (some ⟨b138, 0, none⟩)), (23, .bool R123.2.2.1)] (by kernel_rfl) ?_
      refine gl_done rfl ?_
      refine sw_next ?_
      refine sw_seq ?_
      refine sw_region ?_  -- R28 law.go:156
      obtain ⟨b142, hb141, hi143⟩ := hH.row_idx 6 rfl j (by omega)
      refine gl_ops 2 [(3, .pointer (some ⟨b1, 0, none⟩)), (8, .slice A14 (nch (splitB (i : Int) (t : Int) cf dt).length) c15), (10, .pointer (some ⟨xb18, 0, none⟩)), (14, .slice A39 (nch (splitB (i : Int) (t : Int) cf dt).length) c40), (15, .int .i64 ((left2 : Nat) : Int)), (21, .int .i64 ((j : Nat) : Int)), (22, .pointer (some ⟨b138, 0, none⟩)), (23, .bool R123.2.2.1), (190, .slice A39 (nch (splitB (i : Int) (t : Int) cf dt).length) c40), (191, .int .i64 ((j : Nat) : Int))] (by kernel_rfl) ?_
      refine gl_q rfl rfl rfl (rd_idx (e := 4) (m := 1) (by kernel_rfl) (by kernel_rfl) rfl rfl hi143) ?_
      refine gl_q rfl rfl rfl (rd_loadO 6 (by kernel_rfl) hH rfl rfl hb141 (bools_at th j (by rw [hcol.len]; omega))) ?_
      refine gl_ops 1 [(3, .pointer (some ⟨b1, 0, none⟩)), (8, .slice A14 (nch (splitB (i : Int) (t : Int) cf dt).length) c15), (10, .pointer (some ⟨xb18, 0, none⟩)), (14, .slice A39 (nch (splitB (i : Int) (t : Int) cf dt).length) c40), (15, .int .i64 ((left2 : Nat) : Int)), (21, .int .i64 ((j : Nat) : Int)), (22, .pointer (some ⟨b138, 0, none⟩)), (23, .bool R123.2.2.1), (194, .bool (!(th.getD j false)))] (by kernel_rfl) ?_
      refine gl_done rfl ?_
      refine sw_next ?_
      refine sw_cond rfl rfl (fun hc24 => ?_) (fun hc24 => ?_)
      ·
        try simp only [decide_eq_true_eq, beq_iff_eq, bne_iff_ne, ne_eq, Bool.not_eq_true', beq_eq_false_iff_ne, bne_eq_false_iff_eq, decide_eq_false_iff_not, Int.not_lt, Int.not_le] at hc24
        obtain ⟨hpos, hcol2, his, hsn⟩ := hnew (by rw [hth, hc24]; simp)
        have hle := hcolb.le
        refine sw_seq ?_
        refine sw_region ?_  -- R29 law.go:157
        refine gl_ops 2 [(3, .pointer (some ⟨b1, 0, none⟩)), (8, .slice A14 (nch (splitB (i : Int) (t : Int) cf dt).length) c15), (10, .pointer (some ⟨xb18, 0, none⟩)), (14, .slice A39 (nch (splitB (i : Int) (t : Int) cf dt).length) c40), (21, .int .i64 ((j : Nat) : Int)), (22, .pointer (some ⟨b138, 0, none⟩)), (23, .bool R123.2.2.1), (196, .int .i64 (IntKind.i64.wrap (((left2 : Nat) : Int) - 1)))] (by kernel_rfl) ?_
        refine gl_cv 196 (.int .i64 ((left2 - 1 : Nat) : Int)) (cv_i64 (by omega)) rfl ?_
        refine gl_ops 1 [(3, .pointer (some ⟨b1, 0, none⟩)), (8, .slice A14 (nch (splitB (i : Int) (t : Int) cf dt).length) c15), (10, .pointer (some ⟨xb18, 0, none⟩)), (14, .slice A39 (nch (splitB (i : Int) (t : Int) cf dt).length) c40), (15, .int .i64 ((left2 - 1 : Nat) : Int)), (21, .int .i64 ((j : Nat) : Int)), (22, .pointer (some ⟨b138, 0, none⟩)), (23, .bool R123.2.2.1)] (by kernel_rfl) ?_
        refine gl_done rfl ?_
        refine sw_next ?_
        refine sw_seq ?_
        refine sw_region ?_  -- R30 law.go:158
        refine gl_ops 4 [(3, .pointer (some ⟨b1, 0, none⟩)), (8, .slice A14 (nch (splitB (i : Int) (t : Int) cf dt).length) c15), (10, .pointer (some ⟨xb18, 0, none⟩)), (14, .slice A39 (nch (splitB (i : Int) (t : Int) cf dt).length) c40), (15, .int .i64 ((left2 - 1 : Nat) : Int)), (21, .int .i64 ((j : Nat) : Int)), (22, .pointer (some ⟨b138, 0, none⟩)), (23, .bool R123.2.2.1), (200, .bool (R123.2.2.1 != (((left2 - 1 : Nat) : Int) == (0 : Int))))] (by kernel_rfl) ?_
        refine gl_cv 200 (.bool false) (by rw [his]; exact cv_left hpos) rfl ?_
        refine gl_ops 3 [(3, .pointer (some ⟨b1, 0, none⟩)), (8, .slice A14 (nch (splitB (i : Int) (t : Int) cf dt).length) c15), (10, .pointer (some ⟨xb18, 0, none⟩)), (14, .slice A39 (nch (splitB (i : Int) (t : Int) cf dt).length) c40), (15, .int .i64 ((left2 - 1 : Nat) : Int)), (21, .int .i64 ((j : Nat) : Int)), (22, .pointer (some ⟨b138, 0, none⟩)), (201, .bool false), (203, .bool R123.2.2.1)] (by kernel_rfl) ?_
        refine gl_split 203 (b := R123.2.2.1) rfl (fun hg25 => ?_) (fun hg25 => ?_)
        ·
          try simp only [decide_eq_true_eq, beq_iff_eq, bne_iff_ne, ne_eq, Bool.not_eq_true', beq_eq_false_iff_ne, bne_eq_false_iff_eq, decide_eq_false_iff_not, Int.not_lt, Int.not_le] at hg25
          have hl1 : left2 = 1 := by rw [his] at hg25; exact of_decide_eq_true hg25
          refine gl_q rfl rfl rfl (rd_loadKA (m := 4) 10 (by kernel_rfl) hH rfl rfl (by kernel_rfl) [.int .i64 R123.2.1.idx, .int .i64 R123.2.1.term, .slice A130 R123.2.1.conf.length c131, .slice A134 R123.2.1.data.length c135] rfl rfl) ?_
          refine gl_q rfl rfl rfl (rd_loadKA (m := 4) 0 (by kernel_rfl) hH rfl rfl (by kernel_rfl) [.int .i64 i, .int .i64 t, .slice Ac cf.length cc, .slice Ad dt.length cd] rfl rfl) ?_
          refine gl_st (st_call rfl rfl rfl (by kernel_rfl) rfl (Same_ct (R123.2.1.idx : Int) (R123.2.1.term : Int) (i : Int) (t : Int) _ _ _ _ R123.2.1.conf R123.2.1.data cf dt _ (rb_own hH 8 rfl) (rb_own hH 9 rfl) (kc.mono hH.zin) (kd.mono hH.zin)) ?_)
          rintro _ w144 ⟨rfl, hF145⟩
          replace hH := hH.call hF145; clear hF145
          refine gl_cv 206 (.bool true) (by rw [same_of (hsn hl1)]) rfl ?_
          refine gl_ops 3 [(3, .pointer (some ⟨b1, 0, none⟩)), (8, .slice A14 (nch (splitB (i : Int) (t : Int) cf dt).length) c15), (10, .pointer (some ⟨xb18, 0, none⟩)), (14, .slice A39 (nch (splitB (i : Int) (t : Int) cf dt).length) c40), (15, .int .i64 ((left2 - 1 : Nat) : Int)), (21, .int .i64 ((j : Nat) : Int)), (209, .bool false)] (by kernel_rfl) ?_
          refine gl_done rfl ?_
          refine sw_next ?_
          refine sw_false rfl rfl ?_
          refine sw_skip ?_
          refine bkN ?_
          refine sw_next ?_
          refine sw_region ?_  -- R26 law.go:154
          refine gl_ops 2 [(3, .pointer (some ⟨b1, 0, none⟩)), (8, .slice A14 (nch (splitB (i : Int) (t : Int) cf dt).length) c15), (10, .pointer (some ⟨xb18, 0, none⟩)), (14, .slice A39 (nch (splitB (i : Int) (t : Int) cf dt).length) c40), (15, .int .i64 ((left2 - 1 : Nat) : Int)), (179, .int .i64 (IntKind.i64.wrap (((j : Nat) : Int) + 1)))] (by kernel_rfl) ?_
          refine gl_cv 179 (.int .i64 ((j + 1 : Nat) : Int)) (cv_i64 (by omega)) rfl ?_
          refine gl_ops 1 [(3, .pointer (some ⟨b1, 0, none⟩)), (8, .slice A14 (nch (splitB (i : Int) (t : Int) cf dt).length) c15), (10, .pointer (some ⟨xb18, 0, none⟩)), (14, .slice A39 (nch (splitB (i : Int) (t : Int) cf dt).length) c40), (15, .int .i64 ((left2 - 1 : Nat) : Int)), (21, .int .i64 ((j + 1 : Nat) : Int))] (by kernel_rfl) ?_
          refine gl_done rfl ?_
          refine rnd_end (g := (j, left2, th2, S2, nb2, lm2)) (j + 1, left2 - 1, (th2.set j true), R123.1, nb119, l120) (by kernel_rfl) ?_ ?_
          replace hH : Hp w w144 (w.cell?) [] [.blk b1 24 [.int .i64 i, .int .i64 t, .slice Ac cf.length cc, .slice Ad dt.length cd], .blk b3 24 [.int .i64 i2, .int .i64 t2, .slice Ac2 cf2.length cc2, .slice Ad2 dt2.length cd2], .row (.slice A14 (nch (splitB (i : Int) (t : Int) cf dt).length) c15) 48 5 (nch (splitB (i : Int) (t : Int) cf dt).length) (partsC (i : Int) (t : Int) (nch (splitB (i : Int) (t : Int) cf dt).length) vs8), .grp (partOwn 5 (splitB (i : Int) (t : Int) cf dt) vs8), .row (.slice A30 (nch (splitB (i2 : Int) (t2 : Int) cf2 dt2).length) c31) 48 5 (nch (splitB (i2 : Int) (t2 : Int) cf2 dt2).length) (partsC (i2 : Int) (t2 : Int) (nch (splitB (i2 : Int) (t2 : Int) cf2 dt2).length) vs24), .grp (partOwn 5 (splitB (i2 : Int) (t2 : Int) cf2 dt2) vs24), .row (.slice A39 (nch (splitB (i : Int) (t : Int) cf dt).length) c40) 4 1 (nch (splitB (i : Int) (t : Int) cf dt).length) (th.map Value.bool), .grp (ibxO xb18 nb119 mb19 R123.1 l120), .row (.slice A130 R123.2.1.conf.length c131) 5 1 R123.2.1.conf.length (bv R123.2.1.conf), .row (.slice A134 R123.2.1.data.length c135) 5 1 R123.2.1.data.length (bv R123.2.1.data), .blk b138 24 [.int .i64 R123.2.1.idx, .int .i64 R123.2.1.term, .slice A130 R123.2.1.conf.length c131, .slice A134 R123.2.1.data.length c135]] := hH
          · exact ⟨by omega, hcol2, hf125, next_new hth (by rw [hcolb.len]; omega), ((hH.pick [0, 1, 2, 3, 7, 4, 5, 6, 8, 9, 10] (by kernel_rfl) (os' := [.blk b1 24 [.int .i64 i, .int .i64 t, .slice Ac cf.length cc, .slice Ad dt.length cd], .blk b3 24 [.int .i64 i2, .int .i64 t2, .slice Ac2 cf2.length cc2, .slice Ad2 dt2.length cd2], .row (.slice A14 (nch (splitB (i : Int) (t : Int) cf dt).length) c15) 48 5 (nch (splitB (i : Int) (t : Int) cf dt).length) (partsC (i : Int) (t : Int) (nch (splitB (i : Int) (t : Int) cf dt).length) vs8), .grp (partOwn 5 (splitB (i : Int) (t : Int) cf dt) vs8), .grp (ibxO xb18 nb119 mb19 R123.1 l120), .row (.slice A30 (nch (splitB (i2 : Int) (t2 : Int) cf2 dt2).length) c31) 48 5 (nch (splitB (i2 : Int) (t2 : Int) cf2 dt2).length) (partsC (i2 : Int) (t2 : Int) (nch (splitB (i2 : Int) (t2 : Int) cf2 dt2).length) vs24), .grp (partOwn 5 (splitB (i2 : Int) (t2 : Int) cf2 dt2) vs24), .row (.slice A39 (nch (splitB (i : Int) (t : Int) cf dt).length) c40) 4 1 (nch (splitB (i : Int) (t : Int) cf dt).length) (th.map Value.bool), .row (.slice A130 R123.2.1.conf.length c131) 5 1 R123.2.1.conf.length (bv R123.2.1.conf), .row (.slice A134 R123.2.1.data.length c135) 5 1 R123.2.1.data.length (bv R123.2.1.data), .blk b138 24 [.int .i64 R123.2.1.idx, .int .i64 R123.2.1.term, .slice A130 R123.2.1.conf.length c131, .slice A134 R123.2.1.data.length c135]]) (by kernel_rfl)).sublist (.cons_cons _ (.cons_cons _ (.cons_cons _ (.cons_cons _ (.cons_cons _ (.cons_cons _ (.cons_cons _ (.cons_cons _ (List.nil_sublist _))))))))))⟩
          · show nch (splitB (i : Int) (t : Int) cf dt).length - (j + 1) < nch (splitB (i : Int) (t : Int) cf dt).length - j; omega
        try simp only [decide_eq_false_iff_not, beq_eq_false_iff_ne, bne_eq_false_iff_eq, ne_eq, Decidable.not_not, Int.not_lt, Int.not_le, Bool.not_eq_false', beq_iff_eq, bne_iff_ne, decide_eq_true_eq] at hg25
        refine gl_ops 6 [(3, .pointer (some ⟨b1, 0, none⟩)), (8, .slice A14 (nch (splitB (i : Int) (t : Int) cf dt).length) c15), (10, .pointer (some ⟨xb18, 0, none⟩)), (14, .slice A39 (nch (splitB (i : Int) (t : Int) cf dt).length) c40), (15, .int .i64 ((left2 - 1 : Nat) : Int)), (21, .int .i64 ((j : Nat) : Int)), (209, .bool false)] (by kernel_rfl) ?_
        refine gl_done rfl ?_
        refine sw_next ?_
        refine sw_false rfl rfl ?_
        refine sw_skip ?_
        refine bkN ?_
        refine sw_next ?_
        refine sw_region ?_  -- R26 law.go:154
        refine gl_ops 2 [(3, .pointer (some ⟨b1, 0, none⟩)), (8, .slice A14 (nch (splitB (i : Int) (t : Int) cf dt).length) c15), (10, .pointer (some ⟨xb18, 0, none⟩)), (14, .slice A39 (nch (splitB (i : Int) (t : Int) cf dt).length) c40), (15, .int .i64 ((left2 - 1 : Nat) : Int)), (179, .int .i64 (IntKind.i64.wrap (((j : Nat) : Int) + 1)))] (by kernel_rfl) ?_
        refine gl_cv 179 (.int .i64 ((j + 1 : Nat) : Int)) (cv_i64 (by omega)) rfl ?_
        refine gl_ops 1 [(3, .pointer (some ⟨b1, 0, none⟩)), (8, .slice A14 (nch (splitB (i : Int) (t : Int) cf dt).length) c15), (10, .pointer (some ⟨xb18, 0, none⟩)), (14, .slice A39 (nch (splitB (i : Int) (t : Int) cf dt).length) c40), (15, .int .i64 ((left2 - 1 : Nat) : Int)), (21, .int .i64 ((j + 1 : Nat) : Int))] (by kernel_rfl) ?_
        refine gl_done rfl ?_
        refine rnd_end (g := (j, left2, th2, S2, nb2, lm2)) (j + 1, left2 - 1, (th2.set j true), R123.1, nb119, l120) (by kernel_rfl) ?_ ?_
        replace hH : Hp w w140 (w.cell?) [] [.blk b1 24 [.int .i64 i, .int .i64 t, .slice Ac cf.length cc, .slice Ad dt.length cd], .blk b3 24 [.int .i64 i2, .int .i64 t2, .slice Ac2 cf2.length cc2, .slice Ad2 dt2.length cd2], .row (.slice A14 (nch (splitB (i : Int) (t : Int) cf dt).length) c15) 48 5 (nch (splitB (i : Int) (t : Int) cf dt).length) (partsC (i : Int) (t : Int) (nch (splitB (i : Int) (t : Int) cf dt).length) vs8), .grp (partOwn 5 (splitB (i : Int) (t : Int) cf dt) vs8), .row (.slice A30 (nch (splitB (i2 : Int) (t2 : Int) cf2 dt2).length) c31) 48 5 (nch (splitB (i2 : Int) (t2 : Int) cf2 dt2).length) (partsC (i2 : Int) (t2 : Int) (nch (splitB (i2 : Int) (t2 : Int) cf2 dt2).length) vs24), .grp (partOwn 5 (splitB (i2 : Int) (t2 : Int) cf2 dt2) vs24), .row (.slice A39 (nch (splitB (i : Int) (t : Int) cf dt).length) c40) 4 1 (nch (splitB (i : Int) (t : Int) cf dt).length) (th.map Value.bool), .grp (ibxO xb18 nb119 mb19 R123.1 l120), .row (.slice A130 R123.2.1.conf.length c131) 5 1 R123.2.1.conf.length (bv R123.2.1.conf), .row (.slice A134 R123.2.1.data.length c135) 5 1 R123.2.1.data.length (bv R123.2.1.data), .blk b138 24 [.int .i64 R123.2.1.idx, .int .i64 R123.2.1.term, .slice A130 R123.2.1.conf.length c131, .slice A134 R123.2.1.data.length c135]] := hH
        · exact ⟨by omega, hcol2, hf125, next_new hth (by rw [hcolb.len]; omega), ((hH.pick [0, 1, 2, 3, 7, 4, 5, 6, 8, 9, 10] (by kernel_rfl) (os' := [.blk b1 24 [.int .i64 i, .int .i64 t, .slice Ac cf.length cc, .slice Ad dt.length cd], .blk b3 24 [.int .i64 i2, .int .i64 t2, .slice Ac2 cf2.length cc2, .slice Ad2 dt2.length cd2], .row (.slice A14 (nch (splitB (i : Int) (t : Int) cf dt).length) c15) 48 5 (nch (splitB (i : Int) (t : Int) cf dt).length) (partsC (i : Int) (t : Int) (nch (splitB (i : Int) (t : Int) cf dt).length) vs8), .grp (partOwn 5 (splitB (i : Int) (t : Int) cf dt) vs8), .grp (ibxO xb18 nb119 mb19 R123.1 l120), .row (.slice A30 (nch (splitB (i2 : Int) (t2 : Int) cf2 dt2).length) c31) 48 5 (nch (splitB (i2 : Int) (t2 : Int) cf2 dt2).length) (partsC (i2 : Int) (t2 : Int) (nch (splitB (i2 : Int) (t2 : Int) cf2 dt2).length) vs24), .grp (partOwn 5 (splitB (i2 : Int) (t2 : Int) cf2 dt2) vs24), .row (.slice A39 (nch (splitB (i : Int) (t : Int) cf dt).length) c40) 4 1 (nch (splitB (i : Int) (t : Int) cf dt).length) (th.map Value.bool), .row (.slice A130 R123.2.1.conf.length c131) 5 1 R123.2.1.conf.length (bv R123.2.1.conf), .row (.slice A134 R123.2.1.data.length c135) 5 1 R123.2.1.data.length (bv R123.2.1.data), .blk b138 24 [.int .i64 R123.2.1.idx, .int .i64 R123.2.1.term, .slice A130 R123.2.1.conf.length c131, .slice A134 R123.2.1.data.length c135]]) (by kernel_rfl)).sublist (.cons_cons _ (.cons_cons _ (.cons_cons _ (.cons_cons _ (.cons_cons _ (.cons_cons _ (.cons_cons _ (.cons_cons _ (List.nil_sublist _))))))))))⟩
        · show nch (splitB (i : Int) (t : Int) cf dt).length - (j + 1) < nch (splitB (i : Int) (t : Int) cf dt).length - j; omega
      try simp only [decide_eq_false_iff_not, beq_eq_false_iff_ne, bne_eq_false_iff_eq, ne_eq, Decidable.not_not, Int.not_lt, Int.not_le, Bool.not_eq_false', beq_iff_eq, bne_iff_ne, decide_eq_true_eq] at hc24
      have hthere := hc24
      have hcol2 := (hwas (by rw [hth, hc24]; rfl)).1
      refine sw_skip ?_
      refine bkN ?_
      refine sw_next ?_
      refine sw_region ?_  -- R26 law.go:154
      refine gl_ops 2 [(3, .pointer (some ⟨b1, 0, none⟩)), (8, .slice A14 (nch (splitB (i : Int) (t : Int) cf dt).length) c15), (10, .pointer (some ⟨xb18, 0, none⟩)), (14, .slice A39 (nch (splitB (i : Int) (t : Int) cf dt).length) c40), (15, .int .i64 ((left2 : Nat) : Int)), (179, .int .i64 (IntKind.i64.wrap (((j : Nat) : Int) + 1)))] (by kernel_rfl) ?_
      refine gl_cv 179 (.int .i64 ((j + 1 : Nat) : Int)) (cv_i64 (by omega)) rfl ?_
      refine gl_ops 1 [(3, .pointer (some ⟨b1, 0, none⟩)), (8, .slice A14 (nch (splitB (i : Int) (t : Int) cf dt).length) c15), (10, .pointer (some ⟨xb18, 0, none⟩)), (14, .slice A39 (nch (splitB (i : Int) (t : Int) cf dt).length) c40), (15, .int .i64 ((left2 : Nat) : Int)), (21, .int .i64 ((j + 1 : Nat) : Int))] (by kernel_rfl) ?_
      refine gl_done rfl ?_
      refine rnd_end (g := (j, left2, th2, S2, nb2, lm2)) (j + 1, left2, th2, R123.1, nb119, l120) (by kernel_rfl) ?_ ?_
      replace hH : Hp w w140 (w.cell?) [] [.blk b1 24 [.int .i64 i, .int .i64 t, .slice Ac cf.length cc, .slice Ad dt.length cd], .blk b3 24 [.int .i64 i2, .int .i64 t2, .slice Ac2 cf2.length cc2, .slice Ad2 dt2.length cd2], .row (.slice A14 (nch (splitB (i : Int) (t : Int) cf dt).length) c15) 48 5 (nch (splitB (i : Int) (t : Int) cf dt).length) (partsC (i : Int) (t : Int) (nch (splitB (i : Int) (t : Int) cf dt).length) vs8), .grp (partOwn 5 (splitB (i : Int) (t : Int) cf dt) vs8), .row (.slice A30 (nch (splitB (i2 : Int) (t2 : Int) cf2 dt2).length) c31) 48 5 (nch (splitB (i2 : Int) (t2 : Int) cf2 dt2).length) (partsC (i2 : Int) (t2 : Int) (nch (splitB (i2 : Int) (t2 : Int) cf2 dt2).length) vs24), .grp (partOwn 5 (splitB (i2 : Int) (t2 : Int) cf2 dt2) vs24), .row (.slice A39 (nch (splitB (i : Int) (t : Int) cf dt).length) c40) 4 1 (nch (splitB (i : Int) (t : Int) cf dt).length) (th.map Value.bool), .grp (ibxO xb18 nb119 mb19 R123.1 l120), .row (.slice A130 R123.2.1.conf.length c131) 5 1 R123.2.1.conf.length (bv R123.2.1.conf), .row (.slice A134 R123.2.1.data.length c135) 5 1 R123.2.1.data.length (bv R123.2.1.data), .blk b138 24 [.int .i64 R123.2.1.idx, .int .i64 R123.2.1.term, .slice A130 R123.2.1.conf.length c131, .slice A134 R123.2.1.data.length c135]] := hH
      · exact ⟨by omega, hcol2, hf125, next_old hth hthere, ((hH.pick [0, 1, 2, 3, 7, 4, 5, 6, 8, 9, 10] (by kernel_rfl) (os' := [.blk b1 24 [.int .i64 i, .int .i64 t, .slice Ac cf.length cc, .slice Ad dt.length cd], .blk b3 24 [.int .i64 i2, .int .i64 t2, .slice Ac2 cf2.length cc2, .slice Ad2 dt2.length cd2], .row (.slice A14 (nch (splitB (i : Int) (t : Int) cf dt).length) c15) 48 5 (nch (splitB (i : Int) (t : Int) cf dt).length) (partsC (i : Int) (t : Int) (nch (splitB (i : Int) (t : Int) cf dt).length) vs8), .grp (partOwn 5 (splitB (i : Int) (t : Int) cf dt) vs8), .grp (ibxO xb18 nb119 mb19 R123.1 l120), .row (.slice A30 (nch (splitB (i2 : Int) (t2 : Int) cf2 dt2).length) c31) 48 5 (nch (splitB (i2 : Int) (t2 : Int) cf2 dt2).length) (partsC (i2 : Int) (t2 : Int) (nch (splitB (i2 : Int) (t2 : Int) cf2 dt2).length) vs24), .grp (partOwn 5 (splitB (i2 : Int) (t2 : Int) cf2 dt2) vs24), .row (.slice A39 (nch (splitB (i : Int) (t : Int) cf dt).length) c40) 4 1 (nch (splitB (i : Int) (t : Int) cf dt).length) (th.map Value.bool), .row (.slice A130 R123.2.1.conf.length c131) 5 1 R123.2.1.conf.length (bv R123.2.1.conf), .row (.slice A134 R123.2.1.data.length c135) 5 1 R123.2.1.data.length (bv R123.2.1.data), .blk b138 24 [.int .i64 R123.2.1.idx, .int .i64 R123.2.1.term, .slice A130 R123.2.1.conf.length c131, .slice A134 R123.2.1.data.length c135]]) (by kernel_rfl)).sublist (.cons_cons _ (.cons_cons _ (.cons_cons _ (.cons_cons _ (.cons_cons _ (.cons_cons _ (.cons_cons _ (.cons_cons _ (List.nil_sublist _))))))))))⟩
      · show nch (splitB (i : Int) (t : Int) cf dt).length - (j + 1) < nch (splitB (i : Int) (t : Int) cf dt).length - j; omega
    try simp only [decide_eq_false_iff_not, beq_eq_false_iff_ne, bne_eq_false_iff_eq, ne_eq, Decidable.not_not, Int.not_lt, Int.not_le, Bool.not_eq_false', beq_iff_eq, bne_iff_ne, decide_eq_true_eq] at hc23
    refine sw_exit ?_
    refine thX ?_
    refine thX ?_
    refine bkH ?_
    refine sw_next ?_
    refine sw_seq ?_
    refine sw_region ?_  -- R32 law.go:163
    refine gl_ops 3 [(6, .bool (((left2 : Nat) : Int) == (0 : Int)))] (by kernel_rfl) ?_
    refine gl_done rfl ?_
    refine sw_next ?_
    refine sw_ret ?_
    refine ret1 rfl rfl  ?_
    exact ⟨by rw [show left2 = 0 from by first | omega | exact col_end hcolb hth (by omega)]; rfl, (hH.sublist (List.nil_sublist _)).fresh⟩
  try simp only [decide_eq_false_iff_not, beq_eq_false_iff_ne, bne_eq_false_iff_eq, ne_eq, Decidable.not_not, Int.not_lt, Int.not_le, Bool.not_eq_false', beq_iff_eq, bne_iff_ne, decide_eq_true_eq] at hg22
  refine gl_ops 3 [(3, .pointer (some ⟨b1, 0, none⟩)), (8, .slice A14 (nch (splitB (i : Int) (t : Int) cf dt).length) c15), (10, .pointer (some ⟨xb18, 0, none⟩)), (14, .slice A39 (nch (splitB (i : Int) (t : Int) cf dt).length) c40), (15, .int .i64 ((left2 : Nat) : Int)), (21, .int .i64 ((j : Nat) : Int)), (177, .bool false)] (by kernel_rfl) ?_
  refine gl_done rfl ?_
  refine sw_next ?_
  refine sw_false rfl rfl ?_
  refine sw_exit ?_
  refine thX ?_
  refine thX ?_
  refine bkH ?_
  refine sw_next ?_
  refine sw_seq ?_
  refine sw_region ?_  -- R32 law.go:163
  refine gl_ops 3 [(6, .bool (((left2 : Nat) : Int) == (0 : Int)))] (by kernel_rfl) ?_
  refine gl_done rfl ?_
  refine sw_next ?_
  refine sw_ret ?_
  refine ret1 rfl rfl  ?_
  exact ⟨by rw [show left2 = 0 from by first | omega | exact col_end hcolb hth (by omega)]; rfl, (hH.sublist (List.nil_sublist _)).fresh⟩
end Go.Proofs.YtjcchjgkkplamaaDoor
