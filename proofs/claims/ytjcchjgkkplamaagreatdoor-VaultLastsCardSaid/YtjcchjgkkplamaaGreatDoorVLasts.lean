/- Law 20: what was saved is loaded, with the power gone behind it: the law's walk. -/
import Derived.Test.YtjcchjgkkplamaaGreatDoorVDiskP
import Derived.Test.YtjcchjgkkplamaaGreatDoorDisk3
import Derived.Test.YtjcchjgkkplamaaGreatDoorSmall
set_option maxRecDepth 100000
set_option maxHeartbeats 4000000
set_option linter.unusedVariables false
set_option linter.unusedSimpArgs false
namespace Go.Proofs.YtjcchjgkkplamaaGreatDoor
open Go.RowKit Go.SW

theorem VaultLasts_ct (i t : Int) (vc vd : Value) (cf dt : List UInt8) (i2 t2 : Int) (vc2 vd2 : Value) (cf2 dt2 : List UInt8) (part : Int) (vk : Value) (ks : List Int) (w : World) (hG : w.cell? ⟨0, 0, none⟩ = some errTy) (kc : RB w.cell? vc cf) (kd : RB w.cell? vd dt) (kcb : RB w.cell? vc2 cf2) (kdb : RB w.cell? vd2 dt2) (hk : Row w.cell? vk 1 ks.length (iv ks))
    (hi : -9223372036854775808 ≤ i ∧ i ≤ 9223372036854775807) (ht : -9223372036854775808 ≤ t ∧ t ≤ 9223372036854775807) (hdl : dt.length ≤ 140737488355328) (hi2 : -9223372036854775808 ≤ i2 ∧ i2 ≤ 9223372036854775807) (ht2 : -9223372036854775808 ≤ t2 ∧ t2 ≤ 9223372036854775807) (hdl2 : dt2.length ≤ 140737488355328) :
    Fun Tryz.prog 3 [.agg #[.int .i64 i, .int .i64 t, vc, vd], .agg #[.int .i64 i2, .int .i64 t2, vc2, vd2], .int .i64 part, vk] w fun v w' => v = .bool true ∧ Fresh w w' [] := by
  obtain ⟨Ac, cc, rfl, kc1, kc2⟩ := kc.row.form
  obtain ⟨Ad, cd, rfl, kd1, kd2⟩ := kd.row.form
  obtain ⟨Ac2, cc2, rfl, kcb1, kcb2⟩ := kcb.row.form
  obtain ⟨Ad2, cd2, rfl, kdb1, kdb2⟩ := kdb.row.form
  obtain ⟨Ak, ck, rfl, hk1, hk2⟩ := hk.form
  have hR0 : Rep [] disk0.fs := ⟨List.Pairwise.nil, List.Perm.refl _⟩
  have hA0 : ArOk disk0.ar := fun a p e => by cases e
  have hG0 : Good disk0.fs 140737488355328 := good_nil _
  refine fun_of_sw Tryz.func3 rfl 102 rfl rfl ?_
  have hH := Hp.start w
  refine sw_sr ?_
  refine gl_st (st_boxH (cs := [.int .i64 i, .int .i64 t, .slice Ac cf.length cc, .slice Ad dt.length cd]) rfl rfl rfl rfl hH ?_)
  clear hH; intro b1 w2 hH
  refine gl_st (st_boxH (cs := [.int .i64 i2, .int .i64 t2, .slice Ac2 cf2.length cc2, .slice Ad2 dt2.length cd2]) rfl rfl rfl rfl hH ?_)
  clear hH; intro b3 w4 hH
  refine gl_ops 1 [(2, .int .i64 part), (3, .slice Ak ks.length ck), (4, Pp b1 0), (5, Pp b3 0)] (by kernel_rfl) ?_
  refine gl_dn rfl ?_
  refine sw_sr ?_
  refine gl_st (st_call rfl rfl rfl (by kernel_rfl) rfl (Small_ct _ (hH.zin _ _ hG)) ?_)
  rintro _ w5 ⟨rfl, hF6⟩
  replace hH := hH.call hF6; clear hF6
  refine gl_ops 1 [(2, .int .i64 part), (3, .slice Ak ks.length ck), (4, Pp b1 0), (5, Pp b3 0), (9, .bool true)] (by kernel_rfl) ?_
  refine gl_dn rfl ?_
  refine sw_sr ?_
  refine gl_st (st_call rfl rfl rfl (by kernel_rfl) rfl (DNew_ct _) ?_)
  rintro _ w9 ⟨db7, mb8, rfl, hF10⟩
  replace hH := hH.call hF10; clear hF10
  refine gl_ops 1 [(2, .int .i64 part), (3, .slice Ak ks.length ck), (4, Pp b1 0), (5, Pp b3 0), (9, .bool true), (10, Pp db7 0)] (by kernel_rfl) ?_
  refine gl_dn rfl ?_
  refine sw_seq ?_
  refine sw_sr ?_
  refine gl_ops 6 [(2, .int .i64 part), (3, .slice Ak ks.length ck), (4, Pp b1 0), (5, Pp b3 0), (10, Pp db7 0), (28, .bool false)] (by kernel_rfl) ?_
  refine gl_dn rfl ?_
  refine sw_false rfl rfl ?_
  refine sw_skip ?_
  refine sw_next ?_
  refine sw_sr ?_
  refine gl_ops 1 [(2, .int .i64 part), (3, .slice Ak ks.length ck), (4, Pp b1 0), (5, Pp b3 0), (10, Pp db7 0), (29, Pp db7 0)] (by kernel_rfl) ?_
  refine gl_q rfl rfl rfl (rd_loadKA (m := 4) 0 (by kernel_rfl) hH rfl rfl (by kernel_rfl) [.int .i64 i, .int .i64 t, .slice Ac cf.length cc, .slice Ad dt.length cd] rfl rfl) ?_
  obtain ⟨R13, hr14⟩ : ∃ R, saveD disk0 i t cf dt = R := ⟨_, rfl⟩
  replace hH := hH.pick [2, 0, 1] (by kernel_rfl) (os' := [.grp (dskO db7 mb8 0 disk0 [])] ++ [.blk b1 24 [.int .i64 i, .int .i64 t, .slice Ac cf.length cc, .slice Ad dt.length cd], .blk b3 24 [.int .i64 i2, .int .i64 t2, .slice Ac2 cf2.length cc2, .slice Ad2 dt2.length cd2]]) (by kernel_rfl)
  refine gl_st (st_call rfl rfl rfl (by kernel_rfl) rfl (by have h9 := Save_ct db7 mb8 0 disk0 [] i t _ _ cf dt 140737488355328 _ hH.mine hR0 hA0 hG0 (by omega) (kc.mono hH.zoff) (kd.mono hH.zoff) hi ht hdl; rw [hr14] at h9; exact h9) ?_)
  rintro _ w15 ⟨es11, rfl, hR12, hF16⟩
  replace hH := hH.turns hF16; clear hF16
  replace hH : Hp w w15 _ _ [.blk b1 24 [.int .i64 i, .int .i64 t, .slice Ac cf.length cc, .slice Ad dt.length cd], .blk b3 24 [.int .i64 i2, .int .i64 t2, .slice Ac2 cf2.length cc2, .slice Ad2 dt2.length cd2], .grp (dskO db7 mb8 0 R13.1 es11)] := hH
  have hGR13 : Good R13.1.fs 140737488355328 := by rw [← hr14]; exact good_save hG0 (by omega) _ _ _ _
  have hAR13 : ArOk R13.1.ar := by rw [← hr14]; exact ar_save hA0 _ _ _ _
  have hNR13 : R13.1.fs.length ≤ 2 := by rw [← hr14]; exact Nat.le_trans (len_save _ _ _ _) (by simp)
  refine gl_ops 1 [(2, .int .i64 part), (3, .slice Ak ks.length ck), (4, Pp b1 0), (5, Pp b3 0), (10, Pp db7 0), (11, errV R13.2)] (by kernel_rfl) ?_
  refine gl_dn rfl ?_
  refine sw_seq ?_
  refine sw_sr ?_
  refine gl_ops 1 [(2, .int .i64 part), (3, .slice Ak ks.length ck), (4, Pp b1 0), (5, Pp b3 0), (10, Pp db7 0), (32, errV R13.2)] (by kernel_rfl) ?_
  refine gl_q rfl rfl rfl (rd_err_ne (by kernel_rfl) rfl) ?_
  refine gl_dn rfl ?_
  refine sw_cond rfl rfl (fun hc2 => ?_) (fun hc2 => ?_)
  ·
    try simp only [decide_eq_true_eq, beq_iff_eq, bne_iff_ne, ne_eq, Bool.not_eq_true', beq_eq_false_iff_ne, bne_eq_false_iff_eq, decide_eq_false_iff_not, Int.not_lt, Int.not_le] at hc2
    refine sw_sr ?_
    have hl7 : loadD R13.1 = (Snp.none, false, 0) := by rw [← hr14]; exact save_not (by rw [hr14]; omega)
    refine gl_ops 1 [(35, Pp db7 0)] (by kernel_rfl) ?_
    replace hH := hH.pick [2, 0, 1] (by kernel_rfl) (os' := [.grp (dskO db7 mb8 0 R13.1 es11)] ++ [.blk b1 24 [.int .i64 i, .int .i64 t, .slice Ac cf.length cc, .slice Ad dt.length cd], .blk b3 24 [.int .i64 i2, .int .i64 t2, .slice Ac2 cf2.length cc2, .slice Ad2 dt2.length cd2]]) (by kernel_rfl)
    refine gl_st (st_call rfl rfl rfl (by kernel_rfl) rfl (by have h9 := Load_ct db7 mb8 0 R13.1 es11 140737488355328 _ hH.mine hR12 hAR13 hGR13 (by omega); rw [hl7] at h9; exact h9) ?_)
    rintro _ w21 ⟨v17, v18, rfl, hF22⟩
    replace hH := hH.turns hF22; clear hF22
    replace hH : Hp w w21 _ _ [.blk b1 24 [.int .i64 i, .int .i64 t, .slice Ac cf.length cc, .slice Ad dt.length cd], .blk b3 24 [.int .i64 i2, .int .i64 t2, .slice Ac2 cf2.length cc2, .slice Ad2 dt2.length cd2], .grp (dskO db7 mb8 0 R13.1 es11), .row v17 5 1 0 [], .row v18 5 1 0 []] := hH
    obtain ⟨A23, c24, rfl, hl25, hm26⟩ := hH.row_form 3 rfl
    obtain ⟨A27, c28, rfl, hl29, hm30⟩ := hH.row_form 4 rfl
    refine gl_ops 4 [(37, .agg #[.int .i64 0, .int .i64 0, .slice A23 0 c24, .slice A27 0 c28]), (38, .bool false), (39, .nilIface)] (by kernel_rfl) ?_
    refine gl_st (st_allocH rfl rfl rfl (cs := [.int .i64 0, .int .i64 0, .slice none 0 0, .slice none 0 0]) (by kernel_rfl) hH ?_)
    clear hH; intro b31 w32 hH
    refine gl_st (st_storeKA (vs := [.int .i64 0, .int .i64 0, .slice A23 0 c24, .slice A27 0 c28]) 5 rfl rfl rfl hH rfl rfl (by kernel_rfl) (by kernel_rfl) rfl (by simp) [.int .i64 0, .int .i64 0, .slice A23 0 c24, .slice A27 0 c28] rfl ?_)
    clear hH; intro w33 hH
    refine gl_ops 2 [(13, .bool false), (14, .nilIface)] (by kernel_rfl) ?_
    refine gl_dn rfl ?_
    refine sw_sr ?_
    refine gl_ops 7 [(8, .bool true)] (by kernel_rfl) ?_
    refine gl_dn rfl ?_
    refine sw_ret ?_
    refine thR ?_
    refine ret1 rfl rfl  ?_
    exact ⟨rfl, (hH.sublist (List.nil_sublist _)).fresh⟩
  try simp only [decide_eq_false_iff_not, beq_eq_false_iff_ne, bne_eq_false_iff_eq, ne_eq, Decidable.not_not, Int.not_lt, Int.not_le, Bool.not_eq_false', beq_iff_eq, bne_iff_ne, decide_eq_true_eq] at hc2
  refine sw_skip ?_
  refine sw_next ?_
  refine sw_sr ?_
  obtain ⟨D1, hD1⟩ : ∃ D, startD R13.1 ks = D := ⟨_, rfl⟩
  refine gl_ops 2 [(2, .int .i64 part), (3, .slice Ak ks.length ck), (4, Pp b1 0), (5, Pp b3 0), (10, Pp db7 0), (46, Pp db7 0), (47, .slice Ak ks.length ck)] (by kernel_rfl) ?_
  replace hH := hH.pick [2, 0, 1] (by kernel_rfl) (os' := [.grp (dskO db7 mb8 0 R13.1 es11)] ++ [.blk b1 24 [.int .i64 i, .int .i64 t, .slice Ac cf.length cc, .slice Ad dt.length cd], .blk b3 24 [.int .i64 i2, .int .i64 t2, .slice Ac2 cf2.length cc2, .slice Ad2 dt2.length cd2]]) (by kernel_rfl)
  refine gl_st (st_call rfl rfl rfl (by kernel_rfl) rfl (by have h9 := Start_ct db7 mb8 0 R13.1 es11 _ ks 140737488355328 _ hH.mine (hk.mono hH.zoff) hR12 hGR13 (by omega) (by omega); rw [hD1] at h9; exact h9) ?_)
  rintro _ w36 ⟨es34, rfl, hR35, hF37⟩
  replace hH := hH.turns hF37; clear hF37
  replace hH : Hp w w36 _ _ [.blk b1 24 [.int .i64 i, .int .i64 t, .slice Ac cf.length cc, .slice Ad dt.length cd], .blk b3 24 [.int .i64 i2, .int .i64 t2, .slice Ac2 cf2.length cc2, .slice Ad2 dt2.length cd2], .grp (dskO db7 mb8 0 D1 es34)] := hH
  have hGD1 : Good D1.fs 140737488355328 := by rw [← hD1]; exact good_start hGR13 ks
  have hAD1 : ArOk D1.ar := by rw [← hD1]; intro a p e; cases e
  have hN1 : D1.fs.length ≤ 1 := by rw [← hD1]; show (startF R13.1.fs ks).length ≤ 1; unfold startF; rw [List.length_mapIdx, ← hr14]; exact Nat.le_trans (len_save _ _ _ _) (by simp)
  have hl1 : loadD D1 = (⟨i, t, cf, dt⟩, true, 0) := by rw [← hD1, ← hr14]; exact save_load hi.2 ht.2 (by rw [hr14]; omega) ks
  refine gl_dn rfl ?_
  refine sw_sr ?_
  refine gl_ops 1 [(2, .int .i64 part), (3, .slice Ak ks.length ck), (4, Pp b1 0), (5, Pp b3 0), (10, Pp db7 0), (50, Pp db7 0)] (by kernel_rfl) ?_
  replace hH := hH.pick [2, 0, 1] (by kernel_rfl) (os' := [.grp (dskO db7 mb8 0 D1 es34)] ++ [.blk b1 24 [.int .i64 i, .int .i64 t, .slice Ac cf.length cc, .slice Ad dt.length cd], .blk b3 24 [.int .i64 i2, .int .i64 t2, .slice Ac2 cf2.length cc2, .slice Ad2 dt2.length cd2]]) (by kernel_rfl)
  refine gl_st (st_call rfl rfl rfl (by kernel_rfl) rfl (by have h9 := Load_ct db7 mb8 0 D1 es34 140737488355328 _ hH.mine hR35 hAD1 hGD1 (by omega); rw [hl1] at h9; exact h9) ?_)
  rintro _ w42 ⟨v38, v39, rfl, hF43⟩
  replace hH := hH.turns hF43; clear hF43
  replace hH : Hp w w42 _ _ [.blk b1 24 [.int .i64 i, .int .i64 t, .slice Ac cf.length cc, .slice Ad dt.length cd], .blk b3 24 [.int .i64 i2, .int .i64 t2, .slice Ac2 cf2.length cc2, .slice Ad2 dt2.length cd2], .grp (dskO db7 mb8 0 D1 es34), .row v38 5 1 cf.length (bv cf), .row v39 5 1 dt.length (bv dt)] := hH
  obtain ⟨A44, c45, rfl, hl46, hm47⟩ := hH.row_form 3 rfl
  obtain ⟨A48, c49, rfl, hl50, hm51⟩ := hH.row_form 4 rfl
  refine gl_ops 4 [(2, .int .i64 part), (3, .slice Ak ks.length ck), (4, Pp b1 0), (5, Pp b3 0), (10, Pp db7 0), (52, .agg #[.int .i64 i, .int .i64 t, .slice A44 cf.length c45, .slice A48 dt.length c49]), (53, .bool true), (54, .nilIface)] (by kernel_rfl) ?_
  refine gl_st (st_allocH rfl rfl rfl (cs := [.int .i64 0, .int .i64 0, .slice none 0 0, .slice none 0 0]) (by kernel_rfl) hH ?_)
  clear hH; intro b52 w53 hH
  refine gl_st (st_storeKA (vs := [.int .i64 i, .int .i64 t, .slice A44 cf.length c45, .slice A48 dt.length c49]) 5 rfl rfl rfl hH rfl rfl (by kernel_rfl) (by kernel_rfl) rfl (by simp) [.int .i64 i, .int .i64 t, .slice A44 cf.length c45, .slice A48 dt.length c49] rfl ?_)
  clear hH; intro w54 hH
  refine gl_ops 2 [(2, .int .i64 part), (3, .slice Ak ks.length ck), (4, Pp b1 0), (5, Pp b3 0), (10, Pp db7 0), (15, Pp b52 0), (16, .bool true), (17, .nilIface)] (by kernel_rfl) ?_
  refine gl_dn rfl ?_
  refine sw_seq ?_
  refine sw_sr ?_
  refine gl_ops 7 [(2, .int .i64 part), (3, .slice Ak ks.length ck), (4, Pp b1 0), (5, Pp b3 0), (10, Pp db7 0), (15, Pp b52 0), (61, .bool false)] (by kernel_rfl) ?_
  refine gl_q rfl rfl rfl (rd_loadKA (m := 4) 5 (by kernel_rfl) hH rfl rfl (by kernel_rfl) [.int .i64 i, .int .i64 t, .slice A44 cf.length c45, .slice A48 dt.length c49] rfl rfl) ?_
  refine gl_q rfl rfl rfl (rd_loadKA (m := 4) 0 (by kernel_rfl) hH rfl rfl (by kernel_rfl) [.int .i64 i, .int .i64 t, .slice Ac cf.length cc, .slice Ad dt.length cd] rfl rfl) ?_
  refine gl_st (st_call rfl rfl rfl (by kernel_rfl) rfl (Same_ct (i : Int) (t : Int) (i : Int) (t : Int) _ _ _ _ cf dt cf dt _ (rb_own hH 3 rfl) (rb_own hH 4 rfl) (kc.mono hH.zin) (kd.mono hH.zin)) ?_)
  rintro _ w55 ⟨rfl, hF56⟩
  replace hH := hH.call hF56; clear hF56
  refine gl_cv 64 (.bool true) (by rw [sameS_refl]) rfl ?_
  refine gl_ops 2 [(2, .int .i64 part), (3, .slice Ak ks.length ck), (4, Pp b1 0), (5, Pp b3 0), (10, Pp db7 0), (66, .bool false)] (by kernel_rfl) ?_
  refine gl_dn rfl ?_
  refine sw_false rfl rfl ?_
  refine sw_skip ?_
  refine sw_next ?_
  refine sw_sr ?_
  obtain ⟨D2, hD2⟩ : ∃ D, armD D1 0 part = D := ⟨_, rfl⟩
  refine gl_ops 2 [(3, .slice Ak ks.length ck), (4, Pp b1 0), (5, Pp b3 0), (10, Pp db7 0), (67, Pp db7 0), (68, .int .i64 part)] (by kernel_rfl) ?_
  replace hH := hH.pick [2, 0, 1, 3, 4, 5] (by kernel_rfl) (os' := [.grp (dskO db7 mb8 0 D1 es34)] ++ [.blk b1 24 [.int .i64 i, .int .i64 t, .slice Ac cf.length cc, .slice Ad dt.length cd], .blk b3 24 [.int .i64 i2, .int .i64 t2, .slice Ac2 cf2.length cc2, .slice Ad2 dt2.length cd2], .row (.slice A44 cf.length c45) 5 1 cf.length (bv cf), .row (.slice A48 dt.length c49) 5 1 dt.length (bv dt), .blk b52 24 [.int .i64 i, .int .i64 t, .slice A44 cf.length c45, .slice A48 dt.length c49]]) (by kernel_rfl)
  refine gl_st (st_call rfl rfl rfl (by kernel_rfl) rfl (by have h9 := Arm_ct db7 mb8 0 D1 es34 0 part _ hH.mine; rw [hD2] at h9; exact h9) ?_)
  rintro _ w58 ⟨ab57, rfl, hF59⟩
  replace hH := hH.turns hF59; clear hF59
  replace hH : Hp w w58 _ _ [.blk b1 24 [.int .i64 i, .int .i64 t, .slice Ac cf.length cc, .slice Ad dt.length cd], .blk b3 24 [.int .i64 i2, .int .i64 t2, .slice Ac2 cf2.length cc2, .slice Ad2 dt2.length cd2], .row (.slice A44 cf.length c45) 5 1 cf.length (bv cf), .row (.slice A48 dt.length c49) 5 1 dt.length (bv dt), .blk b52 24 [.int .i64 i, .int .i64 t, .slice A44 cf.length c45, .slice A48 dt.length c49], .grp (dskO db7 mb8 ab57 D2 es34)] := hH
  have hAD2 : ArOk D2.ar := by rw [← hD2]; exact arOk_arm 0 part (by omega) D1
  have hGD2 : Good D2.fs 140737488355328 := by rw [← hD2]; exact hGD1
  have hRD2 : Rep es34 D2.fs := by rw [← hD2]; exact hR35
  have hND2 : D2.fs.length ≤ 1 := by rw [← hD2]; exact hN1
  refine gl_dn rfl ?_
  refine sw_sr ?_
  refine gl_ops 1 [(3, .slice Ak ks.length ck), (4, Pp b1 0), (5, Pp b3 0), (10, Pp db7 0), (70, Pp db7 0)] (by kernel_rfl) ?_
  refine gl_q rfl rfl rfl (rd_loadKA (m := 4) 1 (by kernel_rfl) hH rfl rfl (by kernel_rfl) [.int .i64 i2, .int .i64 t2, .slice Ac2 cf2.length cc2, .slice Ad2 dt2.length cd2] rfl rfl) ?_
  obtain ⟨R62, hr63⟩ : ∃ R, saveD D2 i2 t2 cf2 dt2 = R := ⟨_, rfl⟩
  replace hH := hH.pick [5, 0, 1, 2, 3, 4] (by kernel_rfl) (os' := [.grp (dskO db7 mb8 ab57 D2 es34)] ++ [.blk b1 24 [.int .i64 i, .int .i64 t, .slice Ac cf.length cc, .slice Ad dt.length cd], .blk b3 24 [.int .i64 i2, .int .i64 t2, .slice Ac2 cf2.length cc2, .slice Ad2 dt2.length cd2], .row (.slice A44 cf.length c45) 5 1 cf.length (bv cf), .row (.slice A48 dt.length c49) 5 1 dt.length (bv dt), .blk b52 24 [.int .i64 i, .int .i64 t, .slice A44 cf.length c45, .slice A48 dt.length c49]]) (by kernel_rfl)
  refine gl_st (st_call rfl rfl rfl (by kernel_rfl) rfl (by have h9 := Save_ct db7 mb8 ab57 D2 es34 i2 t2 _ _ cf2 dt2 140737488355328 _ hH.mine hRD2 hAD2 hGD2 (by omega) (kcb.mono hH.zoff) (kdb.mono hH.zoff) hi2 ht2 hdl2; rw [hr63] at h9; exact h9) ?_)
  rintro _ w64 ⟨es60, rfl, hR61, hF65⟩
  replace hH := hH.turns hF65; clear hF65
  replace hH : Hp w w64 _ _ [.blk b1 24 [.int .i64 i, .int .i64 t, .slice Ac cf.length cc, .slice Ad dt.length cd], .blk b3 24 [.int .i64 i2, .int .i64 t2, .slice Ac2 cf2.length cc2, .slice Ad2 dt2.length cd2], .row (.slice A44 cf.length c45) 5 1 cf.length (bv cf), .row (.slice A48 dt.length c49) 5 1 dt.length (bv dt), .blk b52 24 [.int .i64 i, .int .i64 t, .slice A44 cf.length c45, .slice A48 dt.length c49], .grp (dskO db7 mb8 ab57 R62.1 es60)] := hH
  have hGR62 : Good R62.1.fs 140737488355328 := by rw [← hr63]; exact good_save hGD2 (by omega) _ _ _ _
  have hAR62 : ArOk R62.1.ar := by rw [← hr63]; exact ar_save hAD2 _ _ _ _
  have hNR62 : R62.1.fs.length ≤ 2 := by rw [← hr63]; exact Nat.le_trans (len_save _ _ _ _) (by omega)
  refine gl_ops 1 [(3, .slice Ak ks.length ck), (4, Pp b1 0), (5, Pp b3 0), (10, Pp db7 0), (18, errV R62.2)] (by kernel_rfl) ?_
  refine gl_dn rfl ?_
  refine sw_seq ?_
  obtain ⟨hne, hcut⟩ := save_cut hi.2 ht.2 hi2.2 ht2.2 (by rw [hr14]; omega : (saveD disk0 i t cf dt).2 = 0) ks part (by rw [hr14]; exact hD1.symm) hD2.symm hr63.symm
  refine sw_sr ?_
  refine gl_ops 1 [(3, .slice Ak ks.length ck), (4, Pp b1 0), (5, Pp b3 0), (10, Pp db7 0), (18, errV R62.2), (73, errV R62.2)] (by kernel_rfl) ?_
  refine gl_st (st_call rfl rfl rfl (by kernel_rfl) rfl (Code_ct R62.2 _ (hH.zin _ _ hG)) ?_)
  rintro _ w66 ⟨rfl, hF67⟩
  replace hH := hH.call hF67; clear hF67
  refine gl_ops 1 [(3, .slice Ak ks.length ck), (4, Pp b1 0), (5, Pp b3 0), (10, Pp db7 0), (18, errV R62.2), (75, .bool (((R62.2 : Nat) : Int) != (80 : Int)))] (by kernel_rfl) ?_
  refine gl_dn rfl ?_
  refine sw_cond rfl rfl (fun hc4 => ?_) (fun hc4 => ?_)
  ·
    try simp only [decide_eq_true_eq, beq_iff_eq, bne_iff_ne, ne_eq, Bool.not_eq_true', beq_eq_false_iff_ne, bne_eq_false_iff_eq, decide_eq_false_iff_not, Int.not_lt, Int.not_le] at hc4
    refine sw_sr ?_
    refine gl_ops 1 [(76, errV R62.2)] (by kernel_rfl) ?_
    refine gl_q rfl rfl rfl (rd_err_ne (by kernel_rfl) rfl) ?_
    refine gl_cv 77 (.bool true) (by simpa using hne) rfl ?_
    refine gl_ops 1 [(8, .bool true)] (by kernel_rfl) ?_
    refine gl_dn rfl ?_
    refine sw_ret ?_
    refine thR ?_
    refine ret1 rfl rfl  ?_
    exact ⟨rfl, (hH.sublist (List.nil_sublist _)).fresh⟩
  try simp only [decide_eq_false_iff_not, beq_eq_false_iff_ne, bne_eq_false_iff_eq, ne_eq, Decidable.not_not, Int.not_lt, Int.not_le, Bool.not_eq_false', beq_iff_eq, bne_iff_ne, decide_eq_true_eq] at hc4
  refine sw_skip ?_
  refine sw_next ?_
  have hcut2 := hcut (by omega)
  obtain ⟨i3, t3, cf3, dt3, hl3, hor⟩ := cut_pick hcut2
  refine sw_sr ?_
  obtain ⟨D3, hD3⟩ : ∃ D, startD R62.1 ks = D := ⟨_, rfl⟩
  refine gl_ops 2 [(4, Pp b1 0), (5, Pp b3 0), (10, Pp db7 0), (78, Pp db7 0), (79, .slice Ak ks.length ck)] (by kernel_rfl) ?_
  replace hH := hH.pick [5, 0, 1, 2, 3, 4] (by kernel_rfl) (os' := [.grp (dskO db7 mb8 ab57 R62.1 es60)] ++ [.blk b1 24 [.int .i64 i, .int .i64 t, .slice Ac cf.length cc, .slice Ad dt.length cd], .blk b3 24 [.int .i64 i2, .int .i64 t2, .slice Ac2 cf2.length cc2, .slice Ad2 dt2.length cd2], .row (.slice A44 cf.length c45) 5 1 cf.length (bv cf), .row (.slice A48 dt.length c49) 5 1 dt.length (bv dt), .blk b52 24 [.int .i64 i, .int .i64 t, .slice A44 cf.length c45, .slice A48 dt.length c49]]) (by kernel_rfl)
  refine gl_st (st_call rfl rfl rfl (by kernel_rfl) rfl (by have h9 := Start_ct db7 mb8 ab57 R62.1 es60 _ ks 140737488355328 _ hH.mine (hk.mono hH.zoff) hR61 hGR62 (by omega) (by omega); rw [hD3] at h9; exact h9) ?_)
  rintro _ w70 ⟨es68, rfl, hR69, hF71⟩
  replace hH := hH.turns hF71; clear hF71
  replace hH : Hp w w70 _ _ [.blk b1 24 [.int .i64 i, .int .i64 t, .slice Ac cf.length cc, .slice Ad dt.length cd], .blk b3 24 [.int .i64 i2, .int .i64 t2, .slice Ac2 cf2.length cc2, .slice Ad2 dt2.length cd2], .row (.slice A44 cf.length c45) 5 1 cf.length (bv cf), .row (.slice A48 dt.length c49) 5 1 dt.length (bv dt), .blk b52 24 [.int .i64 i, .int .i64 t, .slice A44 cf.length c45, .slice A48 dt.length c49], .grp (dskO db7 mb8 ab57 D3 es68)] := hH
  have hGD3 : Good D3.fs 140737488355328 := by rw [← hD3]; exact good_start hGR62 ks
  have hAD3 : ArOk D3.ar := by rw [← hD3]; intro a p e; cases e
  rw [hD3] at hl3
  refine gl_dn rfl ?_
  refine sw_sr ?_
  refine gl_ops 1 [(4, Pp b1 0), (5, Pp b3 0), (82, Pp db7 0)] (by kernel_rfl) ?_
  replace hH := hH.pick [5, 0, 1, 2, 3, 4] (by kernel_rfl) (os' := [.grp (dskO db7 mb8 ab57 D3 es68)] ++ [.blk b1 24 [.int .i64 i, .int .i64 t, .slice Ac cf.length cc, .slice Ad dt.length cd], .blk b3 24 [.int .i64 i2, .int .i64 t2, .slice Ac2 cf2.length cc2, .slice Ad2 dt2.length cd2], .row (.slice A44 cf.length c45) 5 1 cf.length (bv cf), .row (.slice A48 dt.length c49) 5 1 dt.length (bv dt), .blk b52 24 [.int .i64 i, .int .i64 t, .slice A44 cf.length c45, .slice A48 dt.length c49]]) (by kernel_rfl)
  refine gl_st (st_call rfl rfl rfl (by kernel_rfl) rfl (by have h9 := Load_ct db7 mb8 ab57 D3 es68 140737488355328 _ hH.mine hR69 hAD3 hGD3 (by omega); rw [hl3] at h9; exact h9) ?_)
  rintro _ w76 ⟨v72, v73, rfl, hF77⟩
  replace hH := hH.turns hF77; clear hF77
  replace hH : Hp w w76 _ _ [.blk b1 24 [.int .i64 i, .int .i64 t, .slice Ac cf.length cc, .slice Ad dt.length cd], .blk b3 24 [.int .i64 i2, .int .i64 t2, .slice Ac2 cf2.length cc2, .slice Ad2 dt2.length cd2], .row (.slice A44 cf.length c45) 5 1 cf.length (bv cf), .row (.slice A48 dt.length c49) 5 1 dt.length (bv dt), .blk b52 24 [.int .i64 i, .int .i64 t, .slice A44 cf.length c45, .slice A48 dt.length c49], .grp (dskO db7 mb8 ab57 D3 es68), .row v72 5 1 cf3.length (bv cf3), .row v73 5 1 dt3.length (bv dt3)] := hH
  obtain ⟨A78, c79, rfl, hl80, hm81⟩ := hH.row_form 6 rfl
  obtain ⟨A82, c83, rfl, hl84, hm85⟩ := hH.row_form 7 rfl
  replace hH : Hp w w76 _ _ [.blk b1 24 [.int .i64 i, .int .i64 t, .slice Ac cf.length cc, .slice Ad dt.length cd], .blk b3 24 [.int .i64 i2, .int .i64 t2, .slice Ac2 cf2.length cc2, .slice Ad2 dt2.length cd2], .row (.slice A44 cf.length c45) 5 1 cf.length (bv cf), .row (.slice A48 dt.length c49) 5 1 dt.length (bv dt), .blk b52 24 [.int .i64 i, .int .i64 t, .slice A44 cf.length c45, .slice A48 dt.length c49], .grp (dskO db7 mb8 ab57 D3 es68), .row (.slice A78 cf3.length c79) 5 1 cf3.length (bv cf3), .row (.slice A82 dt3.length c83) 5 1 dt3.length (bv dt3)] := hH
  refine gl_ops 4 [(4, Pp b1 0), (5, Pp b3 0), (84, .agg #[.int .i64 i3, .int .i64 t3, .slice A78 cf3.length c79, .slice A82 dt3.length c83]), (85, .bool true), (86, .nilIface)] (by kernel_rfl) ?_
  refine gl_st (st_allocH rfl rfl rfl (cs := [.int .i64 0, .int .i64 0, .slice none 0 0, .slice none 0 0]) (by kernel_rfl) hH ?_)
  clear hH; intro b86 w87 hH
  replace hH : Hp w w87 _ _ [.blk b1 24 [.int .i64 i, .int .i64 t, .slice Ac cf.length cc, .slice Ad dt.length cd], .blk b3 24 [.int .i64 i2, .int .i64 t2, .slice Ac2 cf2.length cc2, .slice Ad2 dt2.length cd2], .row (.slice A44 cf.length c45) 5 1 cf.length (bv cf), .row (.slice A48 dt.length c49) 5 1 dt.length (bv dt), .blk b52 24 [.int .i64 i, .int .i64 t, .slice A44 cf.length c45, .slice A48 dt.length c49], .grp (dskO db7 mb8 ab57 D3 es68), .row (.slice A78 cf3.length c79) 5 1 cf3.length (bv cf3), .row (.slice A82 dt3.length c83) 5 1 dt3.length (bv dt3), .blk b86 24 [.int .i64 0, .int .i64 0, .slice none 0 0, .slice none 0 0]] := hH
  refine gl_st (st_storeKA (vs := [.int .i64 i3, .int .i64 t3, .slice A78 cf3.length c79, .slice A82 dt3.length c83]) 8 rfl rfl rfl hH rfl rfl (by kernel_rfl) (by kernel_rfl) rfl (by simp) [.int .i64 i3, .int .i64 t3, .slice A78 cf3.length c79, .slice A82 dt3.length c83] rfl ?_)
  clear hH; intro w88 hH
  replace hH : Hp w w88 _ _ [.blk b1 24 [.int .i64 i, .int .i64 t, .slice Ac cf.length cc, .slice Ad dt.length cd], .blk b3 24 [.int .i64 i2, .int .i64 t2, .slice Ac2 cf2.length cc2, .slice Ad2 dt2.length cd2], .row (.slice A44 cf.length c45) 5 1 cf.length (bv cf), .row (.slice A48 dt.length c49) 5 1 dt.length (bv dt), .blk b52 24 [.int .i64 i, .int .i64 t, .slice A44 cf.length c45, .slice A48 dt.length c49], .grp (dskO db7 mb8 ab57 D3 es68), .row (.slice A78 cf3.length c79) 5 1 cf3.length (bv cf3), .row (.slice A82 dt3.length c83) 5 1 dt3.length (bv dt3), .blk b86 24 [.int .i64 i3, .int .i64 t3, .slice A78 cf3.length c79, .slice A82 dt3.length c83]] := hH
  refine gl_ops 2 [(4, Pp b1 0), (5, Pp b3 0), (16, .bool true), (19, Pp b86 0), (20, .nilIface)] (by kernel_rfl) ?_
  refine gl_dn rfl ?_
  refine sw_sr ?_
  refine gl_ops 6 [(4, Pp b1 0), (5, Pp b3 0), (19, Pp b86 0), (92, .bool true)] (by kernel_rfl) ?_
  refine gl_q rfl rfl rfl (rd_loadKA (m := 4) 8 (by kernel_rfl) hH rfl rfl (by kernel_rfl) [.int .i64 i3, .int .i64 t3, .slice A78 cf3.length c79, .slice A82 dt3.length c83] rfl rfl) ?_
  refine gl_q rfl rfl rfl (rd_loadKA (m := 4) 0 (by kernel_rfl) hH rfl rfl (by kernel_rfl) [.int .i64 i, .int .i64 t, .slice Ac cf.length cc, .slice Ad dt.length cd] rfl rfl) ?_
  refine gl_st (st_call rfl rfl rfl (by kernel_rfl) rfl (Same_ct (i3 : Int) (t3 : Int) (i : Int) (t : Int) _ _ _ _ cf3 dt3 cf dt _ (rb_own hH 6 rfl) (rb_own hH 7 rfl) (kc.mono hH.zin) (kd.mono hH.zin)) ?_)
  rintro _ w89 ⟨rfl, hF90⟩
  replace hH := hH.call hF90; clear hF90
  replace hH : Hp w w89 _ _ [.blk b1 24 [.int .i64 i, .int .i64 t, .slice Ac cf.length cc, .slice Ad dt.length cd], .blk b3 24 [.int .i64 i2, .int .i64 t2, .slice Ac2 cf2.length cc2, .slice Ad2 dt2.length cd2], .row (.slice A44 cf.length c45) 5 1 cf.length (bv cf), .row (.slice A48 dt.length c49) 5 1 dt.length (bv dt), .blk b52 24 [.int .i64 i, .int .i64 t, .slice A44 cf.length c45, .slice A48 dt.length c49], .grp (dskO db7 mb8 ab57 D3 es68), .row (.slice A78 cf3.length c79) 5 1 cf3.length (bv cf3), .row (.slice A82 dt3.length c83) 5 1 dt3.length (bv dt3), .blk b86 24 [.int .i64 i3, .int .i64 t3, .slice A78 cf3.length c79, .slice A82 dt3.length c83]] := hH
  refine gl_ops 1 [(5, Pp b3 0), (19, Pp b86 0), (92, .bool true), (96, .bool (sameS (i3 : Int) (t3 : Int) cf3 dt3 (i : Int) (t : Int) cf dt))] (by kernel_rfl) ?_
  refine gl_split 96 (b := sameS (i3 : Int) (t3 : Int) cf3 dt3 (i : Int) (t : Int) cf dt) rfl (fun hg5 => ?_) (fun hg5 => ?_)
  ·
    try simp only [decide_eq_true_eq, beq_iff_eq, bne_iff_ne, ne_eq, Bool.not_eq_true', beq_eq_false_iff_ne, bne_eq_false_iff_eq, decide_eq_false_iff_not, Int.not_lt, Int.not_le] at hg5
    refine gl_ops 6 [(8, .bool true)] (by kernel_rfl) ?_
    refine gl_dn rfl ?_
    refine sw_ret ?_
    refine ret1 rfl rfl  ?_
    exact ⟨rfl, (hH.sublist (List.nil_sublist _)).fresh⟩
  try simp only [decide_eq_false_iff_not, beq_eq_false_iff_ne, bne_eq_false_iff_eq, ne_eq, Decidable.not_not, Int.not_lt, Int.not_le, Bool.not_eq_false', beq_iff_eq, bne_iff_ne, decide_eq_true_eq] at hg5
  refine gl_q rfl rfl rfl (rd_loadKA (m := 4) 8 (by kernel_rfl) hH rfl rfl (by kernel_rfl) [.int .i64 i3, .int .i64 t3, .slice A78 cf3.length c79, .slice A82 dt3.length c83] rfl rfl) ?_
  refine gl_q rfl rfl rfl (rd_loadKA (m := 4) 1 (by kernel_rfl) hH rfl rfl (by kernel_rfl) [.int .i64 i2, .int .i64 t2, .slice Ac2 cf2.length cc2, .slice Ad2 dt2.length cd2] rfl rfl) ?_
  refine gl_st (st_call rfl rfl rfl (by kernel_rfl) rfl (Same_ct (i3 : Int) (t3 : Int) (i2 : Int) (t2 : Int) _ _ _ _ cf3 dt3 cf2 dt2 _ (rb_own hH 6 rfl) (rb_own hH 7 rfl) (kcb.mono hH.zin) (kdb.mono hH.zin)) ?_)
  rintro _ w91 ⟨rfl, hF92⟩
  replace hH := hH.call hF92; clear hF92
  replace hH : Hp w w91 _ _ [.blk b1 24 [.int .i64 i, .int .i64 t, .slice Ac cf.length cc, .slice Ad dt.length cd], .blk b3 24 [.int .i64 i2, .int .i64 t2, .slice Ac2 cf2.length cc2, .slice Ad2 dt2.length cd2], .row (.slice A44 cf.length c45) 5 1 cf.length (bv cf), .row (.slice A48 dt.length c49) 5 1 dt.length (bv dt), .blk b52 24 [.int .i64 i, .int .i64 t, .slice A44 cf.length c45, .slice A48 dt.length c49], .grp (dskO db7 mb8 ab57 D3 es68), .row (.slice A78 cf3.length c79) 5 1 cf3.length (bv cf3), .row (.slice A82 dt3.length c83) 5 1 dt3.length (bv dt3), .blk b86 24 [.int .i64 i3, .int .i64 t3, .slice A78 cf3.length c79, .slice A82 dt3.length c83]] := hH
  refine gl_ops 3 [(8, .bool (sameS (i3 : Int) (t3 : Int) cf3 dt3 (i2 : Int) (t2 : Int) cf2 dt2))] (by kernel_rfl) ?_
  refine gl_dn rfl ?_
  refine sw_ret ?_
  refine ret1 rfl rfl  ?_
  exact ⟨by rw [hor.resolve_left (by simpa using hg5)], (hH.sublist (List.nil_sublist _)).fresh⟩
end Go.Proofs.YtjcchjgkkplamaaGreatDoor
