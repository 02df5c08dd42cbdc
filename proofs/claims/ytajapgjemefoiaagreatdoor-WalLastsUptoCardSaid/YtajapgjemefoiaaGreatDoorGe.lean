/- Ge: several texts in one. -/
import Derived.Test.YtajapgjemefoiaaGreatDoorGb
import Derived.Test.YtajapgjemefoiaaGreatDoorGd
import Derived.Test.YtajapgjemefoiaaGreatDoorGc
import Derived.Test.YtajapgjemefoiaaGreatDoorGa
/- Layer 19 (wal): a record in its frame: what it answers. -/
set_option maxRecDepth 100000
set_option maxHeartbeats 1000000
set_option linter.unusedVariables false
set_option linter.unusedSimpArgs false
namespace Go.Proofs.YtajapgjemefoiaaGreatDoor
open Go.RowKit Go.SW
theorem rec_two {k : Nat} (h : k = 2) (a b c : Nat) (d : List UInt8) : recB ⟨k, a, b, c, d⟩ = frameO (numB k ++ numB a ++ numB b ++ numB c ++ blobB d) := by
  unfold recB recP; simp only [h, if_true, List.append_assoc]
theorem rec_one {k : Nat} (h : k ≠ 2) (a b c : Nat) (d : List UInt8) : recB ⟨k, a, b, c, d⟩ = frameO (numB k ++ numB a ++ numB b) := by
  unfold recB recP; simp [h]
theorem blobB_le2 (c : List UInt8) : (blobB c).length ≤ 65545 := by
  have := numB_le c.length
  unfold blobB
  split <;> (try simp only [List.length_append, List.length_nil]) <;> omega

theorem RecFrame_ct (k a b c : Nat) (vd : Value) (d : List UInt8) (w : World) (hd : RB w.cell? vd d) (hk : k < 9223372036854775808) (ha : a < 9223372036854775808) (hb : b < 9223372036854775808) (hc : c < 9223372036854775808) :
    Fun Tryz.prog 51 [.agg #[.int .i64 ((k : Nat) : Int), .int .i64 ((a : Nat) : Int), .int .i64 ((b : Nat) : Int), .int .i64 ((c : Nat) : Int), vd]] w fun v w' => ∃ v1, v = v1 ∧ Fresh w w' [.row v1 5 1 (recB ⟨k, a, b, c, d⟩).length (bv (recB ⟨k, a, b, c, d⟩))] := by
 obtain ⟨Ad, cd, rfl, hd1, hd2⟩ := hd.row.form
 have hn1 := numB_le k
 have hn2 := numB_le a
 have hn3 := numB_le b
 have hn4 := numB_le c
 have hn5 := blobB_le2 d
 have hlA : (numB k ++ numB a).length ≤ 18 := by simp only [List.length_append]; omega
 have hlB : (numB k ++ numB a ++ numB b).length ≤ 27 := by simp only [List.length_append]; omega
 have hlC : (numB k ++ numB a ++ numB b ++ numB c).length ≤ 36 := by simp only [List.length_append]; omega
 refine fun_of_sw Tryz.func51 rfl 61 rfl rfl ?_
 have hH := Hp.start w
 refine sw_sr ?_
 refine gl_st (st_boxH (cs := [Ni k, Ni a, Ni b, Ni c, .slice Ad d.length cd]) rfl rfl rfl rfl hH ?_)
 clear hH; intro b1 w2 hH
 refine glo 1 [(1, Pp b1 0)] ?_
 refine gl_dn rfl ?_
 refine sw_sr ?_
 refine glo 1 [(1, Pp b1 0), (3, .slice none 0 0)] ?_
 replace hH := hH.nilRow 5 1
 refine gl_dn rfl ?_
 refine sw_sr ?_
 refine glo 1 [(1, Pp b1 0), (3, .slice none 0 0), (13, Pp b1 0)] ?_
 refine gl_q rfl rfl rfl (rd_loadK 0 (by kernel_rfl) hH rfl rfl rfl) ?_
 refine glo 1 [(1, Pp b1 0), (3, .slice none 0 0), (14, Ni k), (15, Pp b1 1)] ?_
 refine gl_q rfl rfl rfl (rd_loadK 0 (by kernel_rfl) hH rfl rfl rfl) ?_
 refine glo 1 [(1, Pp b1 0), (3, .slice none 0 0), (14, Ni k), (16, Ni a), (17, Pp b1 2)] ?_
 refine gl_q rfl rfl rfl (rd_loadK 0 (by kernel_rfl) hH rfl rfl rfl) ?_
 refine gl_st (st_buildS (e := 3) (zv := .int .i64 0) (m := 1) (bytes := 8) rfl rfl rfl (by kernel_rfl) (by kernel_rfl) rfl (cs := [Ni k, Ni a, Ni b]) (by kernel_rfl) rfl hH ?_)
 clear hH; intro b3 w4 hH
 refine glo 1 [(1, Pp b1 0), (3, .slice none 0 0), (4, .slice (some ⟨b3, 0, none⟩) 3 3)] ?_
 refine gl_dn rfl ?_
 refine sw_seq ?_
 refine sw_sr ?_
 refine glo 1 [(1, Pp b1 0), (3, .slice none 0 0), (4, .slice (some ⟨b3, 0, none⟩) 3 3), (20, Pp b1 0)] ?_
 refine gl_q rfl rfl rfl (rd_loadK 0 (by kernel_rfl) hH rfl rfl rfl) ?_
 refine glo 1 [(1, Pp b1 0), (3, .slice none 0 0), (4, .slice (some ⟨b3, 0, none⟩) 3 3), (22, .bool (((k : Nat) : Int) == (2 : Int)))] ?_
 refine gl_dn rfl ?_
 refine sw_cond rfl rfl (fun hc1 => ?_) (fun hc1 => ?_)
 ·
  try simp only [beq_iff_eq] at hc1
  have hk2 : k = 2 := by omega
  refine sw_region ?_
  refine glo 2 [(1, Pp b1 0), (3, .slice none 0 0), (23, .slice (some ⟨b3, 0, none⟩) 3 3), (24, Pp b1 3)] ?_
  refine gl_q rfl rfl rfl (rd_loadK 0 (by kernel_rfl) hH rfl rfl rfl) ?_
  refine gl_st (st_buildS (e := 3) (zv := .int .i64 0) (m := 1) (bytes := 8) rfl rfl rfl (by kernel_rfl) (by kernel_rfl) rfl (cs := [Ni c]) (by kernel_rfl) rfl hH ?_)
  clear hH; intro b5 w6 hH
  replace hH : Hp w w6 _ _ [_, _, _, _] := hH
  refine gl_st (st_appH (e := 3) (zv := .int .i64 0) (m := 1) (bytes := 8) 2 rfl rfl rfl (by kernel_rfl) (by kernel_rfl) rfl (by decide) hH rfl rfl rfl (hH.row_reads 3 rfl) (by simp [Value.oneCell']) (by unfold maxLen; omega) (by omega) ?_)
  clear hH; intro v7 w8 hH
  replace hH := hH.row_eq 2 (l' := 4) (xs' := [Ni k, Ni a, Ni b, Ni c]) rfl (rfl) (rfl)
  obtain ⟨A9, c10, rfl, hl11, hm12⟩ := hH.row_form 2 rfl
  replace hH : Hp w w8 _ _ [_, _, _, _] := hH
  refine glo 1 [(1, Pp b1 0), (3, .slice none 0 0), (4, .slice A9 4 c10)] ?_
  refine gl_done rfl ?_
  refine sw_next ?_
  refine sw_seq ?_
  refine sw_sr ?_
  refine glo 1 [(1, Pp b1 0), (3, .slice none 0 0), (28, .slice A9 4 c10)] ?_
  refine gl_q rfl rfl rfl (rd_len (e := 3) (by kernel_rfl) rfl) ?_
  refine glo 1 [(1, Pp b1 0), (3, .slice none 0 0), (28, .slice A9 4 c10), (29, .int .i64 4), (30, .int .i64 0)] ?_
  refine gl_dn rfl ?_
  refine sw_block ?_
  refine sw_unroll ?_
  refine sw_sr ?_
  refine glo 1 [(1, Pp b1 0), (3, .slice none 0 0), (28, .slice A9 4 c10), (29, .int .i64 4), (30, .int .i64 0), (31, .bool true)] ?_
  refine gl_dn rfl ?_
  refine sw_seq ?_
  refine sw_true rfl rfl ?_
  refine sw_skip ?_
  refine sw_next ?_
  refine sw_seq ?_
  refine sw_block ?_
  refine sw_sr ?_
  obtain ⟨b14, hb13, hi15⟩ := hH.row_idx 2 rfl 0 (by omega)
  refine gl_q rfl rfl rfl (rd_idx (e := 3) (m := 1) (by kernel_rfl) (by kernel_rfl) rfl rfl hi15) ?_
  refine gl_q rfl rfl rfl (rd_loadO 2 (by kernel_rfl) hH rfl rfl hb13 rfl) ?_
  refine glo 1 [(1, Pp b1 0), (3, .slice none 0 0), (6, Ni k), (28, .slice A9 4 c10), (29, .int .i64 4), (30, .int .i64 0)] ?_
  refine gl_dn rfl ?_
  refine sw_sr ?_
  refine glo 1 [(1, Pp b1 0), (3, .slice none 0 0), (28, .slice A9 4 c10), (29, .int .i64 4), (30, .int .i64 0), (35, Ni k)] ?_
  refine gl_st (st_call rfl rfl rfl (by kernel_rfl) rfl (Num_ct k _ (by omega)) ?_)
  rintro _ w18 ⟨v16, rfl, hF19⟩
  replace hH := hH.call hF19; clear hF19
  obtain ⟨A20, c21, rfl, hl22, hm23⟩ := hH.row_form 4 rfl
  replace hH : Hp w w18 _ _ [_, _, _, _, _] := hH
  refine glo 5 [(1, Pp b1 0), (3, .slice none 0 0), (7, .slice A20 ((numB k).length) c21), (28, .slice A9 4 c10), (29, .int .i64 4), (30, .int .i64 0)] ?_
  refine gl_dn rfl ?_
  refine sw_region ?_
  refine glo 2 [(1, Pp b1 0), (28, .slice A9 4 c10), (29, .int .i64 4), (30, .int .i64 0), (39, .slice none 0 0), (40, .slice A20 ((numB k).length) c21)] ?_
  refine gl_st (st_appH (e := 5) (zv := .int .u8 0) (m := 1) (bytes := 1) 1 rfl rfl rfl (by kernel_rfl) (by kernel_rfl) rfl (by decide) hH rfl rfl rfl (hH.row_reads 4 rfl) (bv_one _) (by unfold maxLen; omega) (by omega) ?_)
  clear hH; intro v24 w25 hH
  replace hH := hH.row_eq 1 (l' := (numB k).length) (xs' := bv (numB k)) rfl (Nat.zero_add _) (List.nil_append _)
  obtain ⟨A26, c27, rfl, hl28, hm29⟩ := hH.row_form 1 rfl
  replace hH : Hp w w25 _ _ [_, _, _, _, _] := hH
  refine glo 1 [(1, Pp b1 0), (3, .slice A26 ((numB k).length) c27), (28, .slice A9 4 c10), (29, .int .i64 4), (30, .int .i64 0)] ?_
  refine gl_done rfl ?_
  refine bkN ?_
  refine sw_next ?_
  refine sw_region ?_
  refine glo 1 [(1, Pp b1 0), (3, .slice A26 ((numB k).length) c27), (28, .slice A9 4 c10), (29, .int .i64 4), (42, .int .i64 (IntKind.i64.wrap (0 + 1)))] ?_
  refine gl_cv 42 (.int .i64 1) (cv_i64 (by omega)) rfl ?_
  refine glo 1 [(1, Pp b1 0), (3, .slice A26 ((numB k).length) c27), (28, .slice A9 4 c10), (29, .int .i64 4), (30, .int .i64 1)] ?_
  refine gl_done rfl ?_
  refine sw_again ?_
  refine swk [(1, Pp b1 0), (3, .slice A26 ((numB k).length) c27), (28, .slice A9 4 c10), (29, .int .i64 4), (30, .int .i64 1)] ?_
  refine sw_sr ?_
  refine glo 1 [(1, Pp b1 0), (3, .slice A26 ((numB k).length) c27), (28, .slice A9 4 c10), (29, .int .i64 4), (30, .int .i64 1), (31, .bool true)] ?_
  refine gl_dn rfl ?_
  refine sw_seq ?_
  refine sw_true rfl rfl ?_
  refine sw_skip ?_
  refine sw_next ?_
  refine sw_seq ?_
  refine sw_block ?_
  refine sw_sr ?_
  obtain ⟨b31, hb30, hi32⟩ := hH.row_idx 2 rfl 1 (by omega)
  refine gl_q rfl rfl rfl (rd_idx (e := 3) (m := 1) (by kernel_rfl) (by kernel_rfl) rfl rfl hi32) ?_
  refine gl_q rfl rfl rfl (rd_loadO 2 (by kernel_rfl) hH rfl rfl hb30 rfl) ?_
  refine glo 1 [(1, Pp b1 0), (3, .slice A26 ((numB k).length) c27), (6, Ni a), (28, .slice A9 4 c10), (29, .int .i64 4), (30, .int .i64 1)] ?_
  refine gl_dn rfl ?_
  refine sw_sr ?_
  refine glo 1 [(1, Pp b1 0), (3, .slice A26 ((numB k).length) c27), (28, .slice A9 4 c10), (29, .int .i64 4), (30, .int .i64 1), (35, Ni a)] ?_
  refine gl_st (st_call rfl rfl rfl (by kernel_rfl) rfl (Num_ct a _ (by omega)) ?_)
  rintro _ w35 ⟨v33, rfl, hF36⟩
  replace hH := hH.call hF36; clear hF36
  obtain ⟨A37, c38, rfl, hl39, hm40⟩ := hH.row_form 5 rfl
  replace hH : Hp w w35 _ _ [_, _, _, _, _, _] := hH
  refine glo 5 [(1, Pp b1 0), (3, .slice A26 ((numB k).length) c27), (7, .slice A37 ((numB a).length) c38), (28, .slice A9 4 c10), (29, .int .i64 4), (30, .int .i64 1)] ?_
  refine gl_dn rfl ?_
  refine sw_region ?_
  refine glo 2 [(1, Pp b1 0), (28, .slice A9 4 c10), (29, .int .i64 4), (30, .int .i64 1), (39, .slice A26 ((numB k).length) c27), (40, .slice A37 ((numB a).length) c38)] ?_
  refine gl_st (st_appH (e := 5) (zv := .int .u8 0) (m := 1) (bytes := 1) 1 rfl rfl rfl (by kernel_rfl) (by kernel_rfl) rfl (by decide) hH rfl rfl rfl (hH.row_reads 5 rfl) (bv_one _) (by unfold maxLen; omega) (by omega) ?_)
  clear hH; intro v41 w42 hH
  replace hH := hH.row_eq 1 (l' := ((numB k) ++ (numB a)).length) (xs' := bv ((numB k) ++ (numB a))) rfl (by simp only [List.length_append, List.length_cons, List.length_nil] <;> omega) ((bv_append _ _).symm)
  obtain ⟨A43, c44, rfl, hl45, hm46⟩ := hH.row_form 1 rfl
  replace hH : Hp w w42 _ _ [_, _, _, _, _, _] := hH
  refine glo 1 [(1, Pp b1 0), (3, .slice A43 (((numB k) ++ (numB a)).length) c44), (28, .slice A9 4 c10), (29, .int .i64 4), (30, .int .i64 1)] ?_
  refine gl_done rfl ?_
  refine bkN ?_
  refine sw_next ?_
  refine sw_region ?_
  refine glo 1 [(1, Pp b1 0), (3, .slice A43 (((numB k) ++ (numB a)).length) c44), (28, .slice A9 4 c10), (29, .int .i64 4), (42, .int .i64 (IntKind.i64.wrap (1 + 1)))] ?_
  refine gl_cv 42 (.int .i64 2) (cv_i64 (by omega)) rfl ?_
  refine glo 1 [(1, Pp b1 0), (3, .slice A43 (((numB k) ++ (numB a)).length) c44), (28, .slice A9 4 c10), (29, .int .i64 4), (30, .int .i64 2)] ?_
  refine gl_done rfl ?_
  refine sw_again ?_
  refine swk [(1, Pp b1 0), (3, .slice A43 (((numB k) ++ (numB a)).length) c44), (28, .slice A9 4 c10), (29, .int .i64 4), (30, .int .i64 2)] ?_
  refine sw_sr ?_
  refine glo 1 [(1, Pp b1 0), (3, .slice A43 (((numB k) ++ (numB a)).length) c44), (28, .slice A9 4 c10), (29, .int .i64 4), (30, .int .i64 2), (31, .bool true)] ?_
  refine gl_dn rfl ?_
  refine sw_seq ?_
  refine sw_true rfl rfl ?_
  refine sw_skip ?_
  refine sw_next ?_
  refine sw_seq ?_
  refine sw_block ?_
  refine sw_sr ?_
  obtain ⟨b48, hb47, hi49⟩ := hH.row_idx 2 rfl 2 (by omega)
  refine gl_q rfl rfl rfl (rd_idx (e := 3) (m := 1) (by kernel_rfl) (by kernel_rfl) rfl rfl hi49) ?_
  refine gl_q rfl rfl rfl (rd_loadO 2 (by kernel_rfl) hH rfl rfl hb47 rfl) ?_
  refine glo 1 [(1, Pp b1 0), (3, .slice A43 (((numB k) ++ (numB a)).length) c44), (6, Ni b), (28, .slice A9 4 c10), (29, .int .i64 4), (30, .int .i64 2)] ?_
  refine gl_dn rfl ?_
  refine sw_sr ?_
  refine glo 1 [(1, Pp b1 0), (3, .slice A43 (((numB k) ++ (numB a)).length) c44), (28, .slice A9 4 c10), (29, .int .i64 4), (30, .int .i64 2), (35, Ni b)] ?_
  refine gl_st (st_call rfl rfl rfl (by kernel_rfl) rfl (Num_ct b _ (by omega)) ?_)
  rintro _ w52 ⟨v50, rfl, hF53⟩
  replace hH := hH.call hF53; clear hF53
  obtain ⟨A54, c55, rfl, hl56, hm57⟩ := hH.row_form 6 rfl
  replace hH : Hp w w52 _ _ [_, _, _, _, _, _, _] := hH
  refine glo 5 [(1, Pp b1 0), (3, .slice A43 (((numB k) ++ (numB a)).length) c44), (7, .slice A54 ((numB b).length) c55), (28, .slice A9 4 c10), (29, .int .i64 4), (30, .int .i64 2)] ?_
  refine gl_dn rfl ?_
  refine sw_region ?_
  refine glo 2 [(1, Pp b1 0), (28, .slice A9 4 c10), (29, .int .i64 4), (30, .int .i64 2), (39, .slice A43 (((numB k) ++ (numB a)).length) c44), (40, .slice A54 ((numB b).length) c55)] ?_
  refine gl_st (st_appH (e := 5) (zv := .int .u8 0) (m := 1) (bytes := 1) 1 rfl rfl rfl (by kernel_rfl) (by kernel_rfl) rfl (by decide) hH rfl rfl rfl (hH.row_reads 6 rfl) (bv_one _) (by unfold maxLen; omega) (by omega) ?_)
  clear hH; intro v58 w59 hH
  replace hH := hH.row_eq 1 (l' := (((numB k) ++ (numB a)) ++ (numB b)).length) (xs' := bv (((numB k) ++ (numB a)) ++ (numB b))) rfl (by simp only [List.length_append, List.length_cons, List.length_nil] <;> omega) ((bv_append _ _).symm)
  obtain ⟨A60, c61, rfl, hl62, hm63⟩ := hH.row_form 1 rfl
  replace hH : Hp w w59 _ _ [_, _, _, _, _, _, _] := hH
  refine glo 1 [(1, Pp b1 0), (3, .slice A60 ((((numB k) ++ (numB a)) ++ (numB b)).length) c61), (28, .slice A9 4 c10), (29, .int .i64 4), (30, .int .i64 2)] ?_
  refine gl_done rfl ?_
  refine bkN ?_
  refine sw_next ?_
  refine sw_region ?_
  refine glo 1 [(1, Pp b1 0), (3, .slice A60 ((((numB k) ++ (numB a)) ++ (numB b)).length) c61), (28, .slice A9 4 c10), (29, .int .i64 4), (42, .int .i64 (IntKind.i64.wrap (2 + 1)))] ?_
  refine gl_cv 42 (.int .i64 3) (cv_i64 (by omega)) rfl ?_
  refine glo 1 [(1, Pp b1 0), (3, .slice A60 ((((numB k) ++ (numB a)) ++ (numB b)).length) c61), (28, .slice A9 4 c10), (29, .int .i64 4), (30, .int .i64 3)] ?_
  refine gl_done rfl ?_
  refine sw_again ?_
  refine swk [(1, Pp b1 0), (3, .slice A60 ((((numB k) ++ (numB a)) ++ (numB b)).length) c61), (28, .slice A9 4 c10), (29, .int .i64 4), (30, .int .i64 3)] ?_
  refine sw_sr ?_
  refine glo 1 [(1, Pp b1 0), (3, .slice A60 ((((numB k) ++ (numB a)) ++ (numB b)).length) c61), (28, .slice A9 4 c10), (29, .int .i64 4), (30, .int .i64 3), (31, .bool true)] ?_
  refine gl_dn rfl ?_
  refine sw_seq ?_
  refine sw_true rfl rfl ?_
  refine sw_skip ?_
  refine sw_next ?_
  refine sw_seq ?_
  refine sw_block ?_
  refine sw_sr ?_
  obtain ⟨b65, hb64, hi66⟩ := hH.row_idx 2 rfl 3 (by omega)
  refine gl_q rfl rfl rfl (rd_idx (e := 3) (m := 1) (by kernel_rfl) (by kernel_rfl) rfl rfl hi66) ?_
  refine gl_q rfl rfl rfl (rd_loadO 2 (by kernel_rfl) hH rfl rfl hb64 rfl) ?_
  refine glo 1 [(1, Pp b1 0), (3, .slice A60 ((((numB k) ++ (numB a)) ++ (numB b)).length) c61), (6, Ni c), (28, .slice A9 4 c10), (29, .int .i64 4), (30, .int .i64 3)] ?_
  refine gl_dn rfl ?_
  refine sw_sr ?_
  refine glo 1 [(1, Pp b1 0), (3, .slice A60 ((((numB k) ++ (numB a)) ++ (numB b)).length) c61), (28, .slice A9 4 c10), (29, .int .i64 4), (30, .int .i64 3), (35, Ni c)] ?_
  refine gl_st (st_call rfl rfl rfl (by kernel_rfl) rfl (Num_ct c _ (by omega)) ?_)
  rintro _ w69 ⟨v67, rfl, hF70⟩
  replace hH := hH.call hF70; clear hF70
  obtain ⟨A71, c72, rfl, hl73, hm74⟩ := hH.row_form 7 rfl
  replace hH : Hp w w69 _ _ [_, _, _, _, _, _, _, _] := hH
  refine glo 5 [(1, Pp b1 0), (3, .slice A60 ((((numB k) ++ (numB a)) ++ (numB b)).length) c61), (7, .slice A71 ((numB c).length) c72), (28, .slice A9 4 c10), (29, .int .i64 4), (30, .int .i64 3)] ?_
  refine gl_dn rfl ?_
  refine sw_region ?_
  refine glo 2 [(1, Pp b1 0), (28, .slice A9 4 c10), (29, .int .i64 4), (30, .int .i64 3), (39, .slice A60 ((((numB k) ++ (numB a)) ++ (numB b)).length) c61), (40, .slice A71 ((numB c).length) c72)] ?_
  refine gl_st (st_appH (e := 5) (zv := .int .u8 0) (m := 1) (bytes := 1) 1 rfl rfl rfl (by kernel_rfl) (by kernel_rfl) rfl (by decide) hH rfl rfl rfl (hH.row_reads 7 rfl) (bv_one _) (by unfold maxLen; omega) (by omega) ?_)
  clear hH; intro v75 w76 hH
  replace hH := hH.row_eq 1 (l' := ((((numB k) ++ (numB a)) ++ (numB b)) ++ (numB c)).length) (xs' := bv ((((numB k) ++ (numB a)) ++ (numB b)) ++ (numB c))) rfl (by simp only [List.length_append, List.length_cons, List.length_nil] <;> omega) ((bv_append _ _).symm)
  obtain ⟨A77, c78, rfl, hl79, hm80⟩ := hH.row_form 1 rfl
  replace hH : Hp w w76 _ _ [_, _, _, _, _, _, _, _] := hH
  refine glo 1 [(1, Pp b1 0), (3, .slice A77 (((((numB k) ++ (numB a)) ++ (numB b)) ++ (numB c)).length) c78), (28, .slice A9 4 c10), (29, .int .i64 4), (30, .int .i64 3)] ?_
  refine gl_done rfl ?_
  refine bkN ?_
  refine sw_next ?_
  refine sw_region ?_
  refine glo 1 [(1, Pp b1 0), (3, .slice A77 (((((numB k) ++ (numB a)) ++ (numB b)) ++ (numB c)).length) c78), (28, .slice A9 4 c10), (29, .int .i64 4), (42, .int .i64 (IntKind.i64.wrap (3 + 1)))] ?_
  refine gl_cv 42 (.int .i64 4) (cv_i64 (by omega)) rfl ?_
  refine glo 1 [(1, Pp b1 0), (3, .slice A77 (((((numB k) ++ (numB a)) ++ (numB b)) ++ (numB c)).length) c78), (28, .slice A9 4 c10), (29, .int .i64 4), (30, .int .i64 4)] ?_
  refine gl_done rfl ?_
  refine sw_again ?_
  refine swk [(1, Pp b1 0), (3, .slice A77 (((((numB k) ++ (numB a)) ++ (numB b)) ++ (numB c)).length) c78), (28, .slice A9 4 c10), (29, .int .i64 4), (30, .int .i64 4)] ?_
  refine sw_sr ?_
  refine glo 1 [(1, Pp b1 0), (3, .slice A77 (((((numB k) ++ (numB a)) ++ (numB b)) ++ (numB c)).length) c78), (28, .slice A9 4 c10), (29, .int .i64 4), (30, .int .i64 4), (31, .bool false)] ?_
  refine gl_dn rfl ?_
  refine sw_seq ?_
  refine sw_false rfl rfl ?_
  refine sw_exit ?_
  refine thX ?_
  refine thX ?_
  refine bkH ?_
  refine sw_next ?_
  refine sw_seq ?_
  refine sw_sr ?_
  refine glo 1 [(1, Pp b1 0), (3, .slice A77 (((((numB k) ++ (numB a)) ++ (numB b)) ++ (numB c)).length) c78), (43, Pp b1 0)] ?_
  refine gl_q rfl rfl rfl (rd_loadK 0 (by kernel_rfl) hH rfl rfl rfl) ?_
  refine glo 1 [(1, Pp b1 0), (3, .slice A77 (((((numB k) ++ (numB a)) ++ (numB b)) ++ (numB c)).length) c78), (45, .bool (((k : Nat) : Int) == (2 : Int)))] ?_
  refine gl_dn rfl ?_
  refine sw_cond rfl rfl (fun hc7 => ?_) (fun hc7 => ?_)
  rotate_left
  · exact absurd hc7 (by simp only [decide_eq_false_iff_not, beq_eq_false_iff_ne, bne_eq_false_iff_eq, ne_eq, Decidable.not_not, Int.not_lt, Int.not_le]; omega)
  clear hc7
  refine sw_sr ?_
  refine glo 1 [(3, .slice A77 (((((numB k) ++ (numB a)) ++ (numB b)) ++ (numB c)).length) c78), (47, Pp b1 4)] ?_
  refine gl_q rfl rfl rfl (rd_loadK 0 (by kernel_rfl) hH rfl rfl rfl) ?_
  refine gl_st (st_call rfl rfl rfl (by kernel_rfl) rfl (Blob_ct _ _ _ (hd.mono hH.zin)) ?_)
  rintro _ w83 ⟨v81, rfl, hF84⟩
  replace hH := hH.call hF84; clear hF84
  obtain ⟨A85, c86, rfl, hl87, hm88⟩ := hH.row_form 8 rfl
  replace hH : Hp w w83 _ _ [_, _, _, _, _, _, _, _, _] := hH
  refine glo 5 [(3, .slice A77 (((((numB k) ++ (numB a)) ++ (numB b)) ++ (numB c)).length) c78), (9, .slice A85 ((blobB d).length) c86)] ?_
  refine gl_dn rfl ?_
  refine sw_region ?_
  refine glo 2 [(52, .slice A77 (((((numB k) ++ (numB a)) ++ (numB b)) ++ (numB c)).length) c78), (53, .slice A85 ((blobB d).length) c86)] ?_
  refine gl_st (st_appH (e := 5) (zv := .int .u8 0) (m := 1) (bytes := 1) 1 rfl rfl rfl (by kernel_rfl) (by kernel_rfl) rfl (by decide) hH rfl rfl rfl (hH.row_reads 8 rfl) (bv_one _) (by unfold maxLen; omega) (by omega) ?_)
  clear hH; intro v89 w90 hH
  replace hH := hH.row_eq 1 (l' := (((((numB k) ++ (numB a)) ++ (numB b)) ++ (numB c)) ++ (blobB d)).length) (xs' := bv (((((numB k) ++ (numB a)) ++ (numB b)) ++ (numB c)) ++ (blobB d))) rfl (by simp only [List.length_append, List.length_cons, List.length_nil] <;> omega) ((bv_append _ _).symm)
  obtain ⟨A91, c92, rfl, hl93, hm94⟩ := hH.row_form 1 rfl
  replace hH : Hp w w90 _ _ [_, _, _, _, _, _, _, _, _] := hH
  refine glo 1 [(3, .slice A91 ((((((numB k) ++ (numB a)) ++ (numB b)) ++ (numB c)) ++ (blobB d)).length) c92)] ?_
  refine gl_done rfl ?_
  refine sw_next ?_
  refine sw_sr ?_
  refine glo 1 [(56, .slice A91 ((((((numB k) ++ (numB a)) ++ (numB b)) ++ (numB c)) ++ (blobB d)).length) c92)] ?_
  refine gl_st (st_call rfl rfl rfl (by kernel_rfl) rfl (Frame_ct _ _ _ (rb_own hH 1 rfl)) ?_)
  rintro _ w97 ⟨v95, rfl, hF98⟩
  replace hH := hH.call hF98; clear hF98
  obtain ⟨A99, c100, rfl, hl101, hm102⟩ := hH.row_form 9 rfl
  replace hH : Hp w w97 _ _ [_, _, _, _, _, _, _, _, _, _] := hH
  refine glo 5 [(11, .slice A99 ((frameO (((((numB k) ++ (numB a)) ++ (numB b)) ++ (numB c)) ++ (blobB d))).length) c100)] ?_
  refine gl_dn rfl ?_
  refine sw_sr ?_
  refine glo 2 [(2, .slice A99 ((frameO (((((numB k) ++ (numB a)) ++ (numB b)) ++ (numB c)) ++ (blobB d))).length) c100)] ?_
  refine gl_dn rfl ?_
  refine sw_ret ?_
  refine ret1 rfl rfl  ?_
  have hr := rec_two hk2 a b c d
  exact ⟨_, rfl, ((hH.sublist (slc (slc (slc (slc (slc (slc (slc (slc (slc (slk sln))))))))))).cast (by rw [hr])).fresh⟩
 try simp only [beq_eq_false_iff_ne, ne_eq] at hc1
 have hk2 : k ≠ 2 := by omega
 refine sw_skip ?_
 refine sw_next ?_
 refine sw_seq ?_
 refine sw_sr ?_
 refine glo 1 [(1, Pp b1 0), (3, .slice none 0 0), (28, .slice (some ⟨b3, 0, none⟩) 3 3)] ?_
 refine gl_q rfl rfl rfl (rd_len (e := 3) (by kernel_rfl) rfl) ?_
 refine glo 1 [(1, Pp b1 0), (3, .slice none 0 0), (28, .slice (some ⟨b3, 0, none⟩) 3 3), (29, .int .i64 3), (30, .int .i64 0)] ?_
 refine gl_dn rfl ?_
 refine sw_block ?_
 refine sw_unroll ?_
 refine sw_sr ?_
 refine glo 1 [(1, Pp b1 0), (3, .slice none 0 0), (28, .slice (some ⟨b3, 0, none⟩) 3 3), (29, .int .i64 3), (30, .int .i64 0), (31, .bool true)] ?_
 refine gl_dn rfl ?_
 refine sw_seq ?_
 refine sw_true rfl rfl ?_
 refine sw_skip ?_
 refine sw_next ?_
 refine sw_seq ?_
 refine sw_block ?_
 refine sw_sr ?_
 obtain ⟨b104, hb103, hi105⟩ := hH.row_idx 2 rfl 0 (by omega)
 refine gl_q rfl rfl rfl (rd_idx (e := 3) (m := 1) (by kernel_rfl) (by kernel_rfl) rfl rfl hi105) ?_
 refine gl_q rfl rfl rfl (rd_loadO 2 (by kernel_rfl) hH rfl rfl hb103 rfl) ?_
 refine glo 1 [(1, Pp b1 0), (3, .slice none 0 0), (6, Ni k), (28, .slice (some ⟨b3, 0, none⟩) 3 3), (29, .int .i64 3), (30, .int .i64 0)] ?_
 refine gl_dn rfl ?_
 refine sw_sr ?_
 refine glo 1 [(1, Pp b1 0), (3, .slice none 0 0), (28, .slice (some ⟨b3, 0, none⟩) 3 3), (29, .int .i64 3), (30, .int .i64 0), (35, Ni k)] ?_
 refine gl_st (st_call rfl rfl rfl (by kernel_rfl) rfl (Num_ct k _ (by omega)) ?_)
 rintro _ w108 ⟨v106, rfl, hF109⟩
 replace hH := hH.call hF109; clear hF109
 obtain ⟨A110, c111, rfl, hl112, hm113⟩ := hH.row_form 3 rfl
 replace hH : Hp w w108 _ _ [_, _, _, _] := hH
 refine glo 5 [(1, Pp b1 0), (3, .slice none 0 0), (7, .slice A110 ((numB k).length) c111), (28, .slice (some ⟨b3, 0, none⟩) 3 3), (29, .int .i64 3), (30, .int .i64 0)] ?_
 refine gl_dn rfl ?_
 refine sw_region ?_
 refine glo 2 [(1, Pp b1 0), (28, .slice (some ⟨b3, 0, none⟩) 3 3), (29, .int .i64 3), (30, .int .i64 0), (39, .slice none 0 0), (40, .slice A110 ((numB k).length) c111)] ?_
 refine gl_st (st_appH (e := 5) (zv := .int .u8 0) (m := 1) (bytes := 1) 1 rfl rfl rfl (by kernel_rfl) (by kernel_rfl) rfl (by decide) hH rfl rfl rfl (hH.row_reads 3 rfl) (bv_one _) (by unfold maxLen; omega) (by omega) ?_)
 clear hH; intro v114 w115 hH
 replace hH := hH.row_eq 1 (l' := (numB k).length) (xs' := bv (numB k)) rfl (Nat.zero_add _) (List.nil_append _)
 obtain ⟨A116, c117, rfl, hl118, hm119⟩ := hH.row_form 1 rfl
 replace hH : Hp w w115 _ _ [_, _, _, _] := hH
 refine glo 1 [(1, Pp b1 0), (3, .slice A116 ((numB k).length) c117), (28, .slice (some ⟨b3, 0, none⟩) 3 3), (29, .int .i64 3), (30, .int .i64 0)] ?_
 refine gl_done rfl ?_
 refine bkN ?_
 refine sw_next ?_
 refine sw_region ?_
 refine glo 1 [(1, Pp b1 0), (3, .slice A116 ((numB k).length) c117), (28, .slice (some ⟨b3, 0, none⟩) 3 3), (29, .int .i64 3), (42, .int .i64 (IntKind.i64.wrap (0 + 1)))] ?_
 refine gl_cv 42 (.int .i64 1) (cv_i64 (by omega)) rfl ?_
 refine glo 1 [(1, Pp b1 0), (3, .slice A116 ((numB k).length) c117), (28, .slice (some ⟨b3, 0, none⟩) 3 3), (29, .int .i64 3), (30, .int .i64 1)] ?_
 refine gl_done rfl ?_
 refine sw_again ?_
 refine swk [(1, Pp b1 0), (3, .slice A116 ((numB k).length) c117), (28, .slice (some ⟨b3, 0, none⟩) 3 3), (29, .int .i64 3), (30, .int .i64 1)] ?_
 refine sw_sr ?_
 refine glo 1 [(1, Pp b1 0), (3, .slice A116 ((numB k).length) c117), (28, .slice (some ⟨b3, 0, none⟩) 3 3), (29, .int .i64 3), (30, .int .i64 1), (31, .bool true)] ?_
 refine gl_dn rfl ?_
 refine sw_seq ?_
 refine sw_true rfl rfl ?_
 refine sw_skip ?_
 refine sw_next ?_
 refine sw_seq ?_
 refine sw_block ?_
 refine sw_sr ?_
 obtain ⟨b121, hb120, hi122⟩ := hH.row_idx 2 rfl 1 (by omega)
 refine gl_q rfl rfl rfl (rd_idx (e := 3) (m := 1) (by kernel_rfl) (by kernel_rfl) rfl rfl hi122) ?_
 refine gl_q rfl rfl rfl (rd_loadO 2 (by kernel_rfl) hH rfl rfl hb120 rfl) ?_
 refine glo 1 [(1, Pp b1 0), (3, .slice A116 ((numB k).length) c117), (6, Ni a), (28, .slice (some ⟨b3, 0, none⟩) 3 3), (29, .int .i64 3), (30, .int .i64 1)] ?_
 refine gl_dn rfl ?_
 refine sw_sr ?_
 refine glo 1 [(1, Pp b1 0), (3, .slice A116 ((numB k).length) c117), (28, .slice (some ⟨b3, 0, none⟩) 3 3), (29, .int .i64 3), (30, .int .i64 1), (35, Ni a)] ?_
 refine gl_st (st_call rfl rfl rfl (by kernel_rfl) rfl (Num_ct a _ (by omega)) ?_)
 rintro _ w125 ⟨v123, rfl, hF126⟩
 replace hH := hH.call hF126; clear hF126
 obtain ⟨A127, c128, rfl, hl129, hm130⟩ := hH.row_form 4 rfl
 replace hH : Hp w w125 _ _ [_, _, _, _, _] := hH
 refine glo 5 [(1, Pp b1 0), (3, .slice A116 ((numB k).length) c117), (7, .slice A127 ((numB a).length) c128), (28, .slice (some ⟨b3, 0, none⟩) 3 3), (29, .int .i64 3), (30, .int .i64 1)] ?_
 refine gl_dn rfl ?_
 refine sw_region ?_
 refine glo 2 [(1, Pp b1 0), (28, .slice (some ⟨b3, 0, none⟩) 3 3), (29, .int .i64 3), (30, .int .i64 1), (39, .slice A116 ((numB k).length) c117), (40, .slice A127 ((numB a).length) c128)] ?_
 refine gl_st (st_appH (e := 5) (zv := .int .u8 0) (m := 1) (bytes := 1) 1 rfl rfl rfl (by kernel_rfl) (by kernel_rfl) rfl (by decide) hH rfl rfl rfl (hH.row_reads 4 rfl) (bv_one _) (by unfold maxLen; omega) (by omega) ?_)
 clear hH; intro v131 w132 hH
 replace hH := hH.row_eq 1 (l' := ((numB k) ++ (numB a)).length) (xs' := bv ((numB k) ++ (numB a))) rfl (by simp only [List.length_append, List.length_cons, List.length_nil] <;> omega) ((bv_append _ _).symm)
 obtain ⟨A133, c134, rfl, hl135, hm136⟩ := hH.row_form 1 rfl
 replace hH : Hp w w132 _ _ [_, _, _, _, _] := hH
 refine glo 1 [(1, Pp b1 0), (3, .slice A133 (((numB k) ++ (numB a)).length) c134), (28, .slice (some ⟨b3, 0, none⟩) 3 3), (29, .int .i64 3), (30, .int .i64 1)] ?_
 refine gl_done rfl ?_
 refine bkN ?_
 refine sw_next ?_
 refine sw_region ?_
 refine glo 1 [(1, Pp b1 0), (3, .slice A133 (((numB k) ++ (numB a)).length) c134), (28, .slice (some ⟨b3, 0, none⟩) 3 3), (29, .int .i64 3), (42, .int .i64 (IntKind.i64.wrap (1 + 1)))] ?_
 refine gl_cv 42 (.int .i64 2) (cv_i64 (by omega)) rfl ?_
 refine glo 1 [(1, Pp b1 0), (3, .slice A133 (((numB k) ++ (numB a)).length) c134), (28, .slice (some ⟨b3, 0, none⟩) 3 3), (29, .int .i64 3), (30, .int .i64 2)] ?_
 refine gl_done rfl ?_
 refine sw_again ?_
 refine swk [(1, Pp b1 0), (3, .slice A133 (((numB k) ++ (numB a)).length) c134), (28, .slice (some ⟨b3, 0, none⟩) 3 3), (29, .int .i64 3), (30, .int .i64 2)] ?_
 refine sw_sr ?_
 refine glo 1 [(1, Pp b1 0), (3, .slice A133 (((numB k) ++ (numB a)).length) c134), (28, .slice (some ⟨b3, 0, none⟩) 3 3), (29, .int .i64 3), (30, .int .i64 2), (31, .bool true)] ?_
 refine gl_dn rfl ?_
 refine sw_seq ?_
 refine sw_true rfl rfl ?_
 refine sw_skip ?_
 refine sw_next ?_
 refine sw_seq ?_
 refine sw_block ?_
 refine sw_sr ?_
 obtain ⟨b138, hb137, hi139⟩ := hH.row_idx 2 rfl 2 (by omega)
 refine gl_q rfl rfl rfl (rd_idx (e := 3) (m := 1) (by kernel_rfl) (by kernel_rfl) rfl rfl hi139) ?_
 refine gl_q rfl rfl rfl (rd_loadO 2 (by kernel_rfl) hH rfl rfl hb137 rfl) ?_
 refine glo 1 [(1, Pp b1 0), (3, .slice A133 (((numB k) ++ (numB a)).length) c134), (6, Ni b), (28, .slice (some ⟨b3, 0, none⟩) 3 3), (29, .int .i64 3), (30, .int .i64 2)] ?_
 refine gl_dn rfl ?_
 refine sw_sr ?_
 refine glo 1 [(1, Pp b1 0), (3, .slice A133 (((numB k) ++ (numB a)).length) c134), (28, .slice (some ⟨b3, 0, none⟩) 3 3), (29, .int .i64 3), (30, .int .i64 2), (35, Ni b)] ?_
 refine gl_st (st_call rfl rfl rfl (by kernel_rfl) rfl (Num_ct b _ (by omega)) ?_)
 rintro _ w142 ⟨v140, rfl, hF143⟩
 replace hH := hH.call hF143; clear hF143
 obtain ⟨A144, c145, rfl, hl146, hm147⟩ := hH.row_form 5 rfl
 replace hH : Hp w w142 _ _ [_, _, _, _, _, _] := hH
 refine glo 5 [(1, Pp b1 0), (3, .slice A133 (((numB k) ++ (numB a)).length) c134), (7, .slice A144 ((numB b).length) c145), (28, .slice (some ⟨b3, 0, none⟩) 3 3), (29, .int .i64 3), (30, .int .i64 2)] ?_
 refine gl_dn rfl ?_
 refine sw_region ?_
 refine glo 2 [(1, Pp b1 0), (28, .slice (some ⟨b3, 0, none⟩) 3 3), (29, .int .i64 3), (30, .int .i64 2), (39, .slice A133 (((numB k) ++ (numB a)).length) c134), (40, .slice A144 ((numB b).length) c145)] ?_
 refine gl_st (st_appH (e := 5) (zv := .int .u8 0) (m := 1) (bytes := 1) 1 rfl rfl rfl (by kernel_rfl) (by kernel_rfl) rfl (by decide) hH rfl rfl rfl (hH.row_reads 5 rfl) (bv_one _) (by unfold maxLen; omega) (by omega) ?_)
 clear hH; intro v148 w149 hH
 replace hH := hH.row_eq 1 (l' := (((numB k) ++ (numB a)) ++ (numB b)).length) (xs' := bv (((numB k) ++ (numB a)) ++ (numB b))) rfl (by simp only [List.length_append, List.length_cons, List.length_nil] <;> omega) ((bv_append _ _).symm)
 obtain ⟨A150, c151, rfl, hl152, hm153⟩ := hH.row_form 1 rfl
 replace hH : Hp w w149 _ _ [_, _, _, _, _, _] := hH
 refine glo 1 [(1, Pp b1 0), (3, .slice A150 ((((numB k) ++ (numB a)) ++ (numB b)).length) c151), (28, .slice (some ⟨b3, 0, none⟩) 3 3), (29, .int .i64 3), (30, .int .i64 2)] ?_
 refine gl_done rfl ?_
 refine bkN ?_
 refine sw_next ?_
 refine sw_region ?_
 refine glo 1 [(1, Pp b1 0), (3, .slice A150 ((((numB k) ++ (numB a)) ++ (numB b)).length) c151), (28, .slice (some ⟨b3, 0, none⟩) 3 3), (29, .int .i64 3), (42, .int .i64 (IntKind.i64.wrap (2 + 1)))] ?_
 refine gl_cv 42 (.int .i64 3) (cv_i64 (by omega)) rfl ?_
 refine glo 1 [(1, Pp b1 0), (3, .slice A150 ((((numB k) ++ (numB a)) ++ (numB b)).length) c151), (28, .slice (some ⟨b3, 0, none⟩) 3 3), (29, .int .i64 3), (30, .int .i64 3)] ?_
 refine gl_done rfl ?_
 refine sw_again ?_
 refine swk [(1, Pp b1 0), (3, .slice A150 ((((numB k) ++ (numB a)) ++ (numB b)).length) c151), (28, .slice (some ⟨b3, 0, none⟩) 3 3), (29, .int .i64 3), (30, .int .i64 3)] ?_
 refine sw_sr ?_
 refine glo 1 [(1, Pp b1 0), (3, .slice A150 ((((numB k) ++ (numB a)) ++ (numB b)).length) c151), (28, .slice (some ⟨b3, 0, none⟩) 3 3), (29, .int .i64 3), (30, .int .i64 3), (31, .bool false)] ?_
 refine gl_dn rfl ?_
 refine sw_seq ?_
 refine sw_false rfl rfl ?_
 refine sw_exit ?_
 refine thX ?_
 refine thX ?_
 refine bkH ?_
 refine sw_next ?_
 refine sw_seq ?_
 refine sw_sr ?_
 refine glo 1 [(1, Pp b1 0), (3, .slice A150 ((((numB k) ++ (numB a)) ++ (numB b)).length) c151), (43, Pp b1 0)] ?_
 refine gl_q rfl rfl rfl (rd_loadK 0 (by kernel_rfl) hH rfl rfl rfl) ?_
 refine glo 1 [(1, Pp b1 0), (3, .slice A150 ((((numB k) ++ (numB a)) ++ (numB b)).length) c151), (45, .bool (((k : Nat) : Int) == (2 : Int)))] ?_
 refine gl_dn rfl ?_
 refine sw_cond rfl rfl (fun hc12 => ?_) (fun hc12 => ?_)
 · exact absurd hc12 (by simp only [decide_eq_true_eq, beq_iff_eq, bne_iff_ne, ne_eq]; omega)
 clear hc12
 refine sw_skip ?_
 refine sw_next ?_
 refine sw_sr ?_
 refine glo 1 [(56, .slice A150 ((((numB k) ++ (numB a)) ++ (numB b)).length) c151)] ?_
 refine gl_st (st_call rfl rfl rfl (by kernel_rfl) rfl (Frame_ct _ _ _ (rb_own hH 1 rfl)) ?_)
 rintro _ w156 ⟨v154, rfl, hF157⟩
 replace hH := hH.call hF157; clear hF157
 obtain ⟨A158, c159, rfl, hl160, hm161⟩ := hH.row_form 6 rfl
 replace hH : Hp w w156 _ _ [_, _, _, _, _, _, _] := hH
 refine glo 5 [(11, .slice A158 ((frameO (((numB k) ++ (numB a)) ++ (numB b))).length) c159)] ?_
 refine gl_dn rfl ?_
 refine sw_sr ?_
 refine glo 2 [(2, .slice A158 ((frameO (((numB k) ++ (numB a)) ++ (numB b))).length) c159)] ?_
 refine gl_dn rfl ?_
 refine sw_ret ?_
 refine ret1 rfl rfl  ?_
 have hr := rec_one hk2 a b c d
 exact ⟨_, rfl, ((hH.sublist (slc (slc (slc (slc (slc (slc (slk sln)))))))).cast (by rw [hr])).fresh⟩
end Go.Proofs.YtajapgjemefoiaaGreatDoor
/- Layer 19 (wal): read's closure: a number is taken: what it answers. -/
set_option maxRecDepth 100000
set_option maxHeartbeats 1000000
set_option linter.unusedVariables false
set_option linter.unusedSimpArgs false
namespace Go.Proofs.YtajapgjemefoiaaGreatDoor
open Go.RowKit Go.SW
def NumOf (vp vp' : Value) (p : List UInt8) : Prop := ∀ c : Zone, RB c vp p → RB c vp' (if (takeNum p).2.2 = 0 then p.drop (takeNum p).2.1 else p)
theorem rb_tail_of {c : Zone} {A : Option Addr} {cap n : Nat} {v' : Value} {p : List UInt8} (h : RB c (.slice A p.length cap) p) (hc : CutOf (.slice A p.length cap) 1 n p.length cap v') (hn : n ≤ p.length) : RB c v' (p.drop n) := by
  obtain ⟨A2, l2, c2, e, h1, h2, h3, rfl⟩ := hc
  cases e
  exact RB.tail (row_cut h.row (by decide) n p.length cap h1 (by omega) h2 h3)

theorem ReadNum_ct (g rb j : Nat) (vp : Value) (p : List UInt8) (cs : List Value) (w : World) (hM : Mine w [.blk g 37 [vp], .blk rb 113 cs]) (hp : RB (off w (blksOf [.blk g 37 [vp], .blk rb 113 cs])) vp p) (hj : j < cs.length) :
    Fun Tryz.prog 103 [.pointer (some ⟨rb, j, none⟩), .pointer (some ⟨g, 0, none⟩)] w fun v w' => ∃ vp', v = errV (takeNum p).2.2 ∧ NumOf vp vp' p ∧ Turn w w' [.blk g 37 [vp], .blk rb 113 cs] [.blk g 37 [vp'], .blk rb 113 (if (takeNum p).2.2 = 0 then cs.set j (Ni (takeNum p).1) else cs)] := by
 obtain ⟨Ap, cp, rfl, hp1, hp2⟩ := hp.row.form
 have hu := takeNum_used p
 refine fun_of_sw Tryz.func103 rfl 22 rfl rfl ?_
 have hH := Hp.start_mine hM
 refine sw_sr ?_
 refine glo 1 [(0, Pp rb j), (1, Pp g 0)] ?_
 refine gl_dn rfl ?_
 refine sw_sr ?_
 refine gl_q rfl rfl rfl (rd_loadK 0 (by kernel_rfl) hH rfl rfl rfl) ?_
 refine gl_st (st_call rfl rfl rfl (by kernel_rfl) rfl (TakeNum_ct _ _ _ (hp.mono hH.zin)) ?_)
 rintro _ w1 ⟨rfl, hF2⟩
 replace hH := hH.call hF2; clear hF2
 refine glo 7 [(0, Pp rb j), (1, Pp g 0), (4, Ni ((takeNum p).1)), (5, Ni ((takeNum p).2.1)), (6, errV ((takeNum p).2.2))] ?_
 refine gl_dn rfl ?_
 refine sw_seq ?_
 refine sw_sr ?_
 refine glo 1 [(0, Pp rb j), (1, Pp g 0), (4, Ni ((takeNum p).1)), (5, Ni ((takeNum p).2.1)), (6, errV ((takeNum p).2.2)), (13, errV ((takeNum p).2.2))] ?_
 refine gl_q rfl rfl rfl (rd_err_eq (by kernel_rfl) rfl) ?_
 refine gl_dn rfl ?_
 refine sw_cond rfl rfl (fun hc1 => ?_) (fun hc1 => ?_)
 ·
  try simp only [beq_iff_eq] at hc1
  have hz : (takeNum p).2.2 = 0 := by omega
  refine sw_draw (by kernel_rfl) (fun w_ => Hp w w_ (off w (blksOf [.blk g 37 [.slice Ap p.length cp], .blk rb 113 cs])) (blksOf [.blk g 37 [.slice Ap p.length cp], .blk rb 113 cs]) []) ?_
  replace hH := hH.drew
  generalize { w1 with drawn := w1.drawn + 1 } = w3 at hH ⊢
  have hS9 := hH.sublist sln
  refine gdo 4 [0,1,3,5] [(1, Pp g 0), (6, errV ((takeNum p).2.2)), (16, Ni ((takeNum p).1)), (18, Ni ((takeNum p).2.1)), (20, Pp rb j)] hS9 (PQ.th PQ.body) ?_
  refine gd_st2 2 6 (by kernel_rfl) ?_ ?_
  ·
   refine st_q rfl rfl rfl (rd_loadK 0 (by kernel_rfl) hH rfl rfl rfl) ?_
   refine ⟨hS9, ?_⟩
   refine gdk [(1, Pp g 0), (6, errV ((takeNum p).2.2)), (16, Ni ((takeNum p).1)), (17, .slice Ap p.length cp), (18, Ni ((takeNum p).2.1)), (20, Pp rb j)] ?_
   obtain ⟨A9, hc9, hv9⟩ := hp.row.cut (by decide) (takeNum p).2.1 p.length (by omega) (by omega)
   refine gdq 4 rfl (fun w_ hS => (rd_cut (e := 5) (m := 1) (by kernel_rfl) (by kernel_rfl) rfl (.inr ⟨_, _, rfl, rfl⟩) (.inl ⟨rfl, rfl⟩) hc9)) hS9 (PQ.th PQ.body) ?_
   refine gdk [(1, Pp g 0), (6, errV ((takeNum p).2.2)), (16, Ni ((takeNum p).1)), (19, .slice A9 (p.length - (takeNum p).2.1) (cp - (takeNum p).2.1)), (20, Pp rb j)] ?_
   refine gds 6 (st_storeK (v := Ni ((takeNum p).1)) 1 rfl rfl rfl hH rfl rfl rfl (by kernel_rfl) rfl hj ?_)
   clear hH; intro w4 hH
   replace hH := hH.blk_eq 1 (cs' := cs.set j (Ni (takeNum p).1)) rfl (rfl)
   replace hS9 := hH.sublist sln
   refine ⟨hS9, ?_⟩
   refine gds 7 (st_storeK (v := .slice A9 (p.length - (takeNum p).2.1) (cp - (takeNum p).2.1)) 0 rfl rfl rfl hH rfl rfl rfl (by kernel_rfl) rfl (by simp) ?_)
   clear hH; intro w5 hH
   replace hS9 := hH.sublist sln
   refine ⟨hS9, ?_⟩
   refine gdn [(6, errV ((takeNum p).2.2))] ?_
   refine sw_next ?_
   refine sw_sr ?_
   refine glo 2 [(3, errV ((takeNum p).2.2))] ?_
   refine gl_dn rfl ?_
   refine sw_ret ?_
   refine ret1 rfl rfl  ?_
   replace hH : Hp w w5 _ _ [_, _] := (hH.sublist (slk (slk sln)))
   exact ⟨_, rfl, fun c h => by rw [if_pos hz]; exact rb_tail_of h hc9 hu.1, by rw [if_pos hz]; exact hH.turned⟩
  ·
   refine st_storeK (v := Ni ((takeNum p).1)) 1 rfl rfl rfl hH rfl rfl rfl (by kernel_rfl) rfl hj ?_
   clear hH; intro w6 hH
   replace hH := hH.blk_eq 1 (cs' := cs.set j (Ni (takeNum p).1)) rfl (rfl)
   replace hS9 := hH.sublist sln
   refine ⟨hS9, ?_⟩
   refine gdk [(1, Pp g 0), (6, errV ((takeNum p).2.2)), (18, Ni ((takeNum p).2.1))] ?_
   refine gds 2 (st_q rfl rfl rfl (rd_loadK 0 (by kernel_rfl) hH rfl rfl rfl) ?_)
   refine ⟨hS9, ?_⟩
   obtain ⟨A9, hc9, hv9⟩ := hp.row.cut (by decide) (takeNum p).2.1 p.length (by omega) (by omega)
   refine gdq 4 rfl (fun w_ hS => (rd_cut (e := 5) (m := 1) (by kernel_rfl) (by kernel_rfl) rfl (.inr ⟨_, _, rfl, rfl⟩) (.inl ⟨rfl, rfl⟩) hc9)) hS9 (PQ.th PQ.body) ?_
   refine gdk [(1, Pp g 0), (6, errV ((takeNum p).2.2)), (19, .slice A9 (p.length - (takeNum p).2.1) (cp - (takeNum p).2.1))] ?_
   refine gds 7 (st_storeK (v := .slice A9 (p.length - (takeNum p).2.1) (cp - (takeNum p).2.1)) 0 rfl rfl rfl hH rfl rfl rfl (by kernel_rfl) rfl (by simp) ?_)
   clear hH; intro w7 hH
   replace hS9 := hH.sublist sln
   refine ⟨hS9, ?_⟩
   refine gdn [(6, errV ((takeNum p).2.2))] ?_
   refine sw_next ?_
   refine sw_sr ?_
   refine glo 2 [(3, errV ((takeNum p).2.2))] ?_
   refine gl_dn rfl ?_
   refine sw_ret ?_
   refine ret1 rfl rfl  ?_
   replace hH : Hp w w7 _ _ [_, _] := (hH.sublist (slk (slk sln)))
   exact ⟨_, rfl, fun c h => by rw [if_pos hz]; exact rb_tail_of h hc9 hu.1, by rw [if_pos hz]; exact hH.turned⟩
 try simp only [beq_eq_false_iff_ne, ne_eq] at hc1
 have hz : ¬ (takeNum p).2.2 = 0 := by omega
 refine sw_skip ?_
 refine sw_next ?_
 refine sw_sr ?_
 refine glo 2 [(3, errV ((takeNum p).2.2))] ?_
 refine gl_dn rfl ?_
 refine sw_ret ?_
 refine ret1 rfl rfl  ?_
 replace hH : Hp w w1 _ _ [_, _] := (hH.sublist (slk (slk sln)))
 exact ⟨_, rfl, fun c h => by rw [if_neg hz]; exact h, by rw [if_neg hz]; exact hH.turned⟩
end Go.Proofs.YtajapgjemefoiaaGreatDoor
/- Layer 19 (wal): a content's end, a log's state and base: what they answer. -/
set_option maxRecDepth 100000
set_option maxHeartbeats 1000000
set_option linter.unusedVariables false
set_option linter.unusedSimpArgs false
namespace Go.Proofs.YtajapgjemefoiaaGreatDoor
open Go.RowKit Go.SW

theorem End0_ct (g ix n cap : Nat) (A : Option Addr) (w : World) (h2 : w.cell? ⟨g, 2, none⟩ = some (.int .i64 ((ix : Nat) : Int))) (h4 : w.cell? ⟨g, 4, none⟩ = some (.slice A n cap)) (hx : ix + n < 9223372036854775808) :
    Fun Tryz.prog 80 [.pointer (some ⟨g, 0, none⟩)] w fun v w' => v = .int .i64 (((ix + n : Nat)) : Int) ∧ Fresh w w' [] := by
 refine fun_of_sw Tryz.func80 rfl 13 rfl rfl ?_
 have hH := Hp.start w
 refine sw_sr ?_
 refine glo 1 [(0, .pointer (some ⟨g, 0, none⟩))] ?_
 refine gl_dn rfl ?_
 refine sw_seq ?_
 refine sw_draw (by kernel_rfl) (fun w_ => Hp w w_ (w.cell?) [] []) ?_
 replace hH := hH.drew
 generalize { w with drawn := w.drawn + 1 } = w1 at hH ⊢
 have hS9 := hH.sublist sln
 refine gdo 3 [0,1,2] [(0, .pointer (some ⟨g, 0, none⟩)), (5, .pointer (some ⟨g, 2, none⟩))] hS9 (PQ.th PQ.body) ?_
 refine gdq 3 rfl (fun w_ hS => (rd_load (by kernel_rfl) rfl (hS.zin _ _ h2))) hS9 (PQ.th PQ.body) ?_
 refine gdo 3 [4,5,6] [(6, Ni ix), (9, .pointer (some ⟨g, 4, none⟩))] hS9 (PQ.th PQ.body) ?_
 refine gdq 7 rfl (fun w_ hS => (rd_load (by kernel_rfl) rfl (hS.zin _ _ h4))) hS9 (PQ.th PQ.body) ?_
 refine gdq 8 rfl (fun w_ hS => (rd_len (e := 64) (by kernel_rfl) rfl)) hS9 (PQ.th PQ.body) ?_
 refine gdo 1 [9] [(6, Ni ix), (11, Ni n), (12, .int .i64 (IntKind.i64.wrap (((ix : Nat) : Int) + ((n : Nat) : Int))))] hS9 (PQ.th PQ.body) ?_
 refine gd_cv 12 (Ni (ix + n)) (cv_i64 (by omega)) rfl ?_
 refine gdo 1 [10] [(2, Ni (ix + n))] hS9 (PQ.th PQ.body) ?_
 refine gdn [(2, Ni (ix + n))] ?_
 refine sw_next ?_
 refine sw_ret ?_
 refine ret1 rfl rfl  ?_
 exact ⟨rfl, hH.fresh⟩
theorem End1_ct (g ix n cap : Nat) (A : Option Addr) (w : World) (h2 : w.cell? ⟨g, 3, none⟩ = some (.int .i64 ((ix : Nat) : Int))) (h4 : w.cell? ⟨g, 5, none⟩ = some (.slice A n cap)) (hx : ix + n < 9223372036854775808) :
    Fun Tryz.prog 80 [.pointer (some ⟨g, 1, none⟩)] w fun v w' => v = .int .i64 (((ix + n : Nat)) : Int) ∧ Fresh w w' [] := by
 refine fun_of_sw Tryz.func80 rfl 13 rfl rfl ?_
 have hH := Hp.start w
 refine sw_sr ?_
 refine glo 1 [(0, .pointer (some ⟨g, 1, none⟩))] ?_
 refine gl_dn rfl ?_
 refine sw_seq ?_
 refine sw_draw (by kernel_rfl) (fun w_ => Hp w w_ (w.cell?) [] []) ?_
 replace hH := hH.drew
 generalize { w with drawn := w.drawn + 1 } = w1 at hH ⊢
 have hS9 := hH.sublist sln
 refine gdo 3 [0,1,2] [(0, .pointer (some ⟨g, 1, none⟩)), (5, .pointer (some ⟨g, 3, none⟩))] hS9 (PQ.th PQ.body) ?_
 refine gdq 3 rfl (fun w_ hS => (rd_load (by kernel_rfl) rfl (hS.zin _ _ h2))) hS9 (PQ.th PQ.body) ?_
 refine gdo 3 [4,5,6] [(6, Ni ix), (9, .pointer (some ⟨g, 5, none⟩))] hS9 (PQ.th PQ.body) ?_
 refine gdq 7 rfl (fun w_ hS => (rd_load (by kernel_rfl) rfl (hS.zin _ _ h4))) hS9 (PQ.th PQ.body) ?_
 refine gdq 8 rfl (fun w_ hS => (rd_len (e := 64) (by kernel_rfl) rfl)) hS9 (PQ.th PQ.body) ?_
 refine gdo 1 [9] [(6, Ni ix), (11, Ni n), (12, .int .i64 (IntKind.i64.wrap (((ix : Nat) : Int) + ((n : Nat) : Int))))] hS9 (PQ.th PQ.body) ?_
 refine gd_cv 12 (Ni (ix + n)) (cv_i64 (by omega)) rfl ?_
 refine gdo 1 [10] [(2, Ni (ix + n))] hS9 (PQ.th PQ.body) ?_
 refine gdn [(2, Ni (ix + n))] ?_
 refine sw_next ?_
 refine sw_ret ?_
 refine ret1 rfl rfl  ?_
 exact ⟨rfl, hH.fresh⟩
theorem State_ct (g x y : Nat) (w : World) (h1 : w.cell? ⟨g, 1, none⟩ = some (.int .i64 ((x : Nat) : Int))) (h2 : w.cell? ⟨g, 2, none⟩ = some (.int .i64 ((y : Nat) : Int))) :
    Fun Tryz.prog 19 [.pointer (some ⟨g, 0, none⟩)] w fun v w' => v = .tuple #[.int .i64 ((x : Nat) : Int), .int .i64 ((y : Nat) : Int)] ∧ Fresh w w' [] := by
 refine fun_of_sw Tryz.func19 rfl 14 rfl rfl ?_
 have hH := Hp.start w
 refine sw_sr ?_
 refine glo 2 [(0, .pointer (some ⟨g, 0, none⟩))] ?_
 refine gl_dn rfl ?_
 refine sw_seq ?_
 refine sw_draw (by kernel_rfl) (fun w_ => Hp w w_ (w.cell?) [] []) ?_
 replace hH := hH.drew
 generalize { w with drawn := w.drawn + 1 } = w1 at hH ⊢
 have hS9 := hH.sublist sln
 refine gdo 4 [0,1,2,3] [(0, .pointer (some ⟨g, 0, none⟩)), (7, .pointer (some ⟨g, 1, none⟩))] hS9 (PQ.th PQ.body) ?_
 refine gdq 4 rfl (fun w_ hS => (rd_load (by kernel_rfl) rfl (hS.zin _ _ h1))) hS9 (PQ.th PQ.body) ?_
 refine gdo 4 [5,6,7,8] [(8, Ni x), (12, .pointer (some ⟨g, 2, none⟩))] hS9 (PQ.th PQ.body) ?_
 refine gdq 9 rfl (fun w_ hS => (rd_load (by kernel_rfl) rfl (hS.zin _ _ h2))) hS9 (PQ.th PQ.body) ?_
 refine gdo 2 [10,11] [(2, Ni x), (3, Ni y)] hS9 (PQ.th PQ.body) ?_
 refine gdn [(2, Ni x), (3, Ni y)] ?_
 refine sw_next ?_
 refine sw_ret ?_
 refine ret2 rfl rfl rfl  ?_
 exact ⟨rfl, hH.fresh⟩
theorem Base_ct (g x y : Nat) (w : World) (h1 : w.cell? ⟨g, 3, none⟩ = some (.int .i64 ((x : Nat) : Int))) (h2 : w.cell? ⟨g, 4, none⟩ = some (.int .i64 ((y : Nat) : Int))) :
    Fun Tryz.prog 36 [.pointer (some ⟨g, 0, none⟩)] w fun v w' => v = .tuple #[.int .i64 ((x : Nat) : Int), .int .i64 ((y : Nat) : Int)] ∧ Fresh w w' [] := by
 refine fun_of_sw Tryz.func36 rfl 14 rfl rfl ?_
 have hH := Hp.start w
 refine sw_sr ?_
 refine glo 2 [(0, .pointer (some ⟨g, 0, none⟩))] ?_
 refine gl_dn rfl ?_
 refine sw_seq ?_
 refine sw_draw (by kernel_rfl) (fun w_ => Hp w w_ (w.cell?) [] []) ?_
 replace hH := hH.drew
 generalize { w with drawn := w.drawn + 1 } = w1 at hH ⊢
 have hS9 := hH.sublist sln
 refine gdo 4 [0,1,2,3] [(0, .pointer (some ⟨g, 0, none⟩)), (7, .pointer (some ⟨g, 3, none⟩))] hS9 (PQ.th PQ.body) ?_
 refine gdq 4 rfl (fun w_ hS => (rd_load (by kernel_rfl) rfl (hS.zin _ _ h1))) hS9 (PQ.th PQ.body) ?_
 refine gdo 4 [5,6,7,8] [(8, Ni x), (12, .pointer (some ⟨g, 4, none⟩))] hS9 (PQ.th PQ.body) ?_
 refine gdq 9 rfl (fun w_ hS => (rd_load (by kernel_rfl) rfl (hS.zin _ _ h2))) hS9 (PQ.th PQ.body) ?_
 refine gdo 2 [10,11] [(2, Ni x), (3, Ni y)] hS9 (PQ.th PQ.body) ?_
 refine gdn [(2, Ni x), (3, Ni y)] ?_
 refine sw_next ?_
 refine sw_ret ?_
 refine ret2 rfl rfl rfl  ?_
 exact ⟨rfl, hH.fresh⟩
end Go.Proofs.YtajapgjemefoiaaGreatDoor
/- Layer 19 (wal): rows of entries; slices.Clone of one: what it answers. -/
set_option maxRecDepth 100000
set_option maxHeartbeats 1000000
set_option linter.unusedVariables false
set_option linter.unusedSimpArgs false
namespace Go.Proofs.YtajapgjemefoiaaGreatDoor
open Go.RowKit Go.SW
abbrev EQ := List (En × Value)
def enC (q : En × Value) : List Value := [.int .i64 ((q.1.ix : Nat) : Int), .int .i64 ((q.1.tm : Nat) : Int), .int .i64 ((q.1.kd : Nat) : Int), q.2]
theorem enC_len (q : En × Value) : (enC q).length = 4 := rfl
def EnV (es : EQ) : Prop := ∀ q ∈ es, ∃ A l c, q.2 = .slice A l c
theorem en_one {es : EQ} (h : EnV es) : ∀ u ∈ rowC enC es, u.oneCell' = true := by
  intro u hu
  obtain ⟨c, hc, hu2⟩ := List.mem_flatten.1 hu
  obtain ⟨q, hq, rfl⟩ := List.mem_map.1 hc
  obtain ⟨A, l, cp, e⟩ := h q hq
  simp only [enC, e, List.mem_cons, List.not_mem_nil, or_false] at hu2
  rcases hu2 with rfl | rfl | rfl | rfl <;> rfl

theorem EClone_ct (vx : Value) (es : EQ) (w : World) (hR : Row w.cell? vx 4 es.length (rowC enC es)) (hV : EnV es) (hl : es.length ≤ 1048576) :
    Fun Tryz.prog 57 [vx] w fun v w' => ∃ v1, v = v1 ∧ Fresh w w' [.row v1 64 4 es.length (rowC enC es)] := by
 obtain ⟨Ax, cx, rfl, hx1, hx2⟩ := hR.form
 refine fun_of_sw Tryz.func57 rfl 8 rfl rfl ?_
 have hH := Hp.start w
 refine sw_sr ?_
 refine glo 1 [(0, .slice Ax es.length cx)] ?_
 refine gl_dn rfl ?_
 refine sw_seq ?_
 refine sw_sr ?_
 refine glo 1 [(0, .slice Ax es.length cx), (3, .slice Ax es.length cx)] ?_
 refine gl_q rfl rfl rfl (rd_snil_eql (e := 64) (by kernel_rfl) rfl rfl) ?_
 refine gl_dn rfl ?_
 refine sw_cond rfl rfl (fun hc1 => ?_) (fun hc1 => ?_)
 ·
  refine sw_sr ?_
  refine glo 1 [(2, .slice none 0 0)] ?_
  refine gl_dn rfl ?_
  refine sw_ret ?_
  refine thR ?_
  refine ret1 rfl rfl  ?_
  have hz : Ax = none := by simpa using hc1
  subst hz
  have hn := hR.1
  have he : es = [] := by
    obtain ⟨_, A9, c9, e9, _, _, h9⟩ := hR
    cases e9
    cases es with
    | nil => rfl
    | cons q r => obtain ⟨ad, h8, _⟩ := h9 0 _ rfl; cases h8
  subst he
  exact ⟨_, rfl, (hH.nilRow 64 4).fresh⟩
 refine sw_skip ?_
 refine sw_next ?_
 refine sw_sr ?_
 refine gl_st (st_buildS0 (e := 64) (m := 4) rfl rfl rfl (by kernel_rfl) (by kernel_rfl) hH ?_)
 clear hH; intro b1 w2 hH
 refine glo 1 [(5, .slice (some ⟨b1, 0, none⟩) 0 0), (6, .slice Ax es.length cx)] ?_
 refine gl_st (st_appH (e := 64) (zv := .agg #[.int .i64 0, .int .i64 0, .int .i64 0, .slice none 0 0]) (m := 4) (bytes := 48) 0 rfl rfl rfl (by kernel_rfl) (by kernel_rfl) rfl (by decide) hH rfl rfl rfl (hR.mono hH.zin) (en_one hV) (by unfold maxLen; omega) (by omega) ?_)
 clear hH; intro v3 w4 hH
 replace hH := hH.row_eq 0 (l' := es.length) (xs' := rowC enC es) rfl (Nat.zero_add _) (List.nil_append _)
 obtain ⟨A5, c6, rfl, hl7, hm8⟩ := hH.row_form 0 rfl
 refine glo 1 [(2, .slice A5 es.length c6)] ?_
 refine gl_dn rfl ?_
 refine sw_ret ?_
 refine ret1 rfl rfl  ?_
 exact ⟨_, rfl, (hH.sublist (slk sln)).fresh⟩
end Go.Proofs.YtajapgjemefoiaaGreatDoor
/- Layer 19 (wal): an entry is put behind the others: what it answers. -/
set_option maxRecDepth 100000
set_option maxHeartbeats 1000000
set_option linter.unusedVariables false
set_option linter.unusedSimpArgs false
namespace Go.Proofs.YtajapgjemefoiaaGreatDoor
open Go.RowKit Go.SW
theorem en_take {c : Zone} {v : Value} {es : EQ} {j : Nat} (hj : j ≤ es.length) (h : Row c v 4 (j - 0) (((rowC enC es).drop (0 * 4)).take ((j - 0) * 4))) : Row c v 4 (es.take j).length (rowC enC (es.take j)) := by
  have e1 : (es.take j).length = j := by rw [List.length_take]; omega
  rw [e1, ← rowC_take enC_len es j]
  simpa using h
theorem enV_take {es : EQ} (h : EnV es) (j : Nat) : EnV (es.take j) := fun q hq => h q (List.mem_of_mem_take hq)

theorem Put0_ct (g c0 ix tm kd : Nat) (te vo ah : Int) (ve vd : Value) (es : EQ) (d : List UInt8) (w : World) (hM : Mine w [.blk g 94 [.int .i64 te, .int .i64 vo, .int .i64 ((c0 : Nat) : Int), .int .i64 ah, ve]]) (hE : Row (off w (blksOf [.blk g 94 [.int .i64 te, .int .i64 vo, .int .i64 ((c0 : Nat) : Int), .int .i64 ah, ve]])) ve 4 es.length (rowC enC es)) (hV : EnV es) (hd : RB (off w (blksOf [.blk g 94 [.int .i64 te, .int .i64 vo, .int .i64 ((c0 : Nat) : Int), .int .i64 ah, ve]])) vd d) (hl : es.length ≤ 1000000) (hx : ix < 9223372036854775808) (hcx : c0 + es.length < 9223372036854775808) (hdl : d.length ≤ 1048576) :
    Fun Tryz.prog 48 [.pointer (some ⟨g, 0, none⟩), .agg #[.int .i64 ((ix : Nat) : Int), .int .i64 ((tm : Nat) : Int), .int .i64 ((kd : Nat) : Int), vd]] w fun v w' => (v = .bool false ∧ (ix ≤ c0 ∨ c0 + es.length < ix - 1) ∧ Turn w w' [.blk g 94 [.int .i64 te, .int .i64 vo, .int .i64 ((c0 : Nat) : Int), .int .i64 ah, ve]] [.blk g 94 [.int .i64 te, .int .i64 vo, .int .i64 ((c0 : Nat) : Int), .int .i64 ah, ve]]) ∨ (∃ v1 vd2, v = .bool true ∧ ¬ (ix ≤ c0 ∨ c0 + es.length < ix - 1) ∧ Turn w w' [.blk g 94 [.int .i64 te, .int .i64 vo, .int .i64 ((c0 : Nat) : Int), .int .i64 ah, ve]] [.blk g 94 [.int .i64 te, .int .i64 vo, .int .i64 ((c0 : Nat) : Int), .int .i64 ah, v1], .row v1 64 4 (es.take (ix - c0 - 1) ++ [((⟨ix, tm, kd, d⟩ : En), vd2)]).length (rowC enC (es.take (ix - c0 - 1) ++ [((⟨ix, tm, kd, d⟩ : En), vd2)])), .row vd2 5 1 d.length (bv d)]) := by
 obtain ⟨Ae, ce, rfl, he1, he2⟩ := hE.form
 obtain ⟨Ad, cd, rfl, hd1, hd2⟩ := hd.row.form
 refine fun_of_sw Tryz.func48 rfl 44 rfl rfl ?_
 have hH := Hp.start_mine hM
 refine sw_sr ?_
 refine gl_st (st_boxH (cs := [Ni ix, Ni tm, Ni kd, .slice Ad d.length cd]) rfl rfl rfl rfl hH ?_)
 clear hH; intro b1 w2 hH
 refine glo 1 [(0, Pp g 0), (3, Pp b1 0)] ?_
 refine gl_dn rfl ?_
 refine sw_seq ?_
 refine sw_seq ?_
 refine sw_draw (by kernel_rfl) (fun w_ => Hp w w_ (off w (blksOf [.blk g 94 [.int .i64 te, .int .i64 vo, .int .i64 ((c0 : Nat) : Int), .int .i64 ah, (.slice Ae es.length ce)]])) (blksOf [.blk g 94 [.int .i64 te, .int .i64 vo, .int .i64 ((c0 : Nat) : Int), .int .i64 ah, (.slice Ae es.length ce)]]) [.blk g 94 [.int .i64 te, .int .i64 vo, Ni c0, .int .i64 ah, .slice Ae es.length ce], .blk b1 64 [Ni ix, Ni tm, Ni kd, .slice Ad d.length cd]]) ?_
 replace hH := hH.drew
 generalize { w2 with drawn := w2.drawn + 1 } = w3 at hH ⊢
 have hS9 := hH.sublist (slk (slk sln))
 refine gdo 1 [0] [(0, Pp g 0), (3, Pp b1 0), (5, Pp b1 0)] hS9 (PQ.th (PQ.th PQ.body)) ?_
 refine gdq 1 rfl (fun w_ hS => (rd_loadK 1 (by kernel_rfl) hS rfl rfl rfl)) hS9 (PQ.th (PQ.th PQ.body)) ?_
 refine gdo 3 [2,3,4] [(0, Pp g 0), (3, Pp b1 0), (6, Ni ix), (9, Pp g 2)] hS9 (PQ.th (PQ.th PQ.body)) ?_
 refine gdq 5 rfl (fun w_ hS => (rd_loadK 0 (by kernel_rfl) hS rfl rfl rfl)) hS9 (PQ.th (PQ.th PQ.body)) ?_
 refine gdo 2 [6,7] [(0, Pp g 0), (3, Pp b1 0), (12, .bool (decide (((ix : Nat) : Int) ≤ ((c0 : Nat) : Int))))] hS9 (PQ.th (PQ.th PQ.body)) ?_
 refine gd_split 12 (b := decide (((ix : Nat) : Int) ≤ ((c0 : Nat) : Int))) rfl (fun hg1 => ?_) (fun hg1 => ?_)
 ·
  try simp only [decide_eq_true_eq] at hg1
  refine gdo 7 [8,9,10,11,12,13,14] [(0, Pp g 0), (3, Pp b1 0), (19, .bool true)] hS9 (PQ.th (PQ.th PQ.body)) ?_
  refine gdn [(0, Pp g 0), (3, Pp b1 0), (19, .bool true)] ?_
  refine sw_next ?_
  refine sw_true rfl rfl ?_
  refine sw_sr ?_
  refine glo 1 [(4, .bool false)] ?_
  refine gl_dn rfl ?_
  refine sw_ret ?_
  refine thR ?_
  refine ret1 rfl rfl  ?_
  replace hH : Hp w w3 _ _ [_] := (hH.sublist (slk sln))
  exact .inl ⟨rfl, by omega, hH.turned⟩
 ·
  try simp only [decide_eq_false_iff_not, Int.not_lt, Int.not_le] at hg1
  refine gdo 1 [8] [(0, Pp g 0), (3, Pp b1 0), (12, .bool false), (13, Pp b1 0)] hS9 (PQ.th (PQ.th PQ.body)) ?_
  refine gdq 9 rfl (fun w_ hS => (rd_loadK 1 (by kernel_rfl) hS rfl rfl rfl)) hS9 (PQ.th (PQ.th PQ.body)) ?_
  refine gdo 1 [10] [(0, Pp g 0), (3, Pp b1 0), (12, .bool false), (14, Ni ix), (15, .int .i64 (IntKind.i64.wrap (((ix : Nat) : Int) - 1)))] hS9 (PQ.th (PQ.th PQ.body)) ?_
  refine gd_cv 15 (Ni (ix - 1)) (cv_i64 (by omega)) rfl ?_
  refine gdo 1 [11] [(0, Pp g 0), (3, Pp b1 0), (12, .bool false), (15, Ni (ix - 1)), (16, Pp g 0)] hS9 (PQ.th (PQ.th PQ.body)) ?_
  refine gds 12 (st_call rfl rfl rfl (by kernel_rfl) rfl (End0_ct g c0 es.length ce Ae _ (hH.blk_cell 0 rfl rfl) (hH.blk_cell 0 rfl rfl) (by omega)) ?_)
  rintro _ w4 ⟨rfl, hF5⟩
  replace hH := hH.call hF5; clear hF5
  replace hS9 := hH.sublist (slk (slk sln))
  refine ⟨hS9, ?_⟩
  refine gdo 2 [13,14] [(0, Pp g 0), (3, Pp b1 0), (19, .bool (decide (((ix - 1 : Nat) : Int) > ((c0 + es.length : Nat) : Int))))] hS9 (PQ.th (PQ.th PQ.body)) ?_
  refine gdn [(0, Pp g 0), (3, Pp b1 0), (19, .bool (decide (((ix - 1 : Nat) : Int) > ((c0 + es.length : Nat) : Int))))] ?_
  refine sw_next ?_
  refine sw_cond rfl rfl (fun hc3 => ?_) (fun hc3 => ?_)
  ·
   try simp only [decide_eq_true_eq] at hc3
   refine sw_sr ?_
   refine glo 1 [(4, .bool false)] ?_
   refine gl_dn rfl ?_
   refine sw_ret ?_
   refine thR ?_
   refine ret1 rfl rfl  ?_
   replace hH : Hp w w4 _ _ [_] := (hH.sublist (slk sln))
   exact .inl ⟨rfl, by omega, hH.turned⟩
  try simp only [decide_eq_false_iff_not, Int.not_lt, Int.not_le] at hc3
  refine sw_skip ?_
  refine sw_next ?_
  refine sw_sr ?_
  refine glo 1 [(0, Pp g 0), (3, Pp b1 0), (20, Pp b1 3)] ?_
  refine gl_q rfl rfl rfl (rd_loadK 1 (by kernel_rfl) hH rfl rfl rfl) ?_
  refine gl_st (st_call rfl rfl rfl (by kernel_rfl) rfl (SClone_ct _ d _ (hd.mono hH.zin) (by omega)) ?_)
  rintro _ w8 ⟨v6, rfl, hF9⟩
  replace hH := hH.call hF9; clear hF9
  obtain ⟨A10, c11, rfl, hl12, hm13⟩ := hH.row_form 2 rfl
  refine glo 1 [(0, Pp g 0), (3, Pp b1 0), (22, .slice A10 d.length c11), (23, Pp b1 3)] ?_
  refine gl_st (st_storeK (v := .slice A10 d.length c11) 1 rfl rfl rfl hH rfl rfl rfl (by kernel_rfl) rfl (by simp) ?_)
  clear hH; intro w14 hH
  refine gl_dn rfl ?_
  refine sw_seq ?_
  refine sw_draw (by kernel_rfl) (fun w_ => Hp w w_ (off w (blksOf [.blk g 94 [.int .i64 te, .int .i64 vo, .int .i64 ((c0 : Nat) : Int), .int .i64 ah, (.slice Ae es.length ce)]])) (blksOf [.blk g 94 [.int .i64 te, .int .i64 vo, .int .i64 ((c0 : Nat) : Int), .int .i64 ah, (.slice Ae es.length ce)]]) [.blk b1 64 [Ni ix, Ni tm, Ni kd, .slice A10 d.length c11], .row (.slice A10 d.length c11) 5 1 d.length (bv d)]) ?_
  replace hH := hH.drew
  generalize { w14 with drawn := w14.drawn + 1 } = w15 at hH ⊢
  have hS9 := hH.sublist (slc (slk (slk sln)))
  refine gdo 5 [0,1,2,3,5] [(0, Pp g 0), (3, Pp b1 0), (24, Pp g 0), (27, Pp g 4), (29, Pp b1 0)] hS9 (PQ.th PQ.body) ?_
  refine gdq 6 rfl (fun w_ hS => (rd_loadK 0 (by kernel_rfl) hS rfl rfl rfl)) hS9 (PQ.th PQ.body) ?_
  refine gdo 3 [7,8,9] [(3, Pp b1 0), (24, Pp g 0), (27, Pp g 4), (30, Ni ix), (33, Pp g 2)] hS9 (PQ.th PQ.body) ?_
  refine gdq 15 rfl (fun w_ hS => (rd_loadKA (m := 4) 0 (by kernel_rfl) hS rfl rfl (by kernel_rfl) [Ni ix, Ni tm, Ni kd, .slice A10 d.length c11] rfl rfl)) hS9 (PQ.th PQ.body) ?_
  refine gd_st3 4 10 16 (by kernel_rfl) ?_ ?_ ?_
  ·
   refine st_q rfl rfl rfl (rd_loadK 0 (by kernel_rfl) hH rfl rfl rfl) ?_
   refine ⟨hS9, ?_⟩
   refine gdk [(24, Pp g 0), (28, .slice Ae es.length ce), (30, Ni ix), (33, Pp g 2), (39, .agg #[Ni ix, Ni tm, Ni kd, .slice A10 d.length c11])] ?_
   refine gd_st2 10 16 (by kernel_rfl) ?_ ?_
   ·
    refine st_q rfl rfl rfl (rd_loadK 0 (by kernel_rfl) hH rfl rfl rfl) ?_
    refine ⟨hS9, ?_⟩
    refine gdk [(24, Pp g 0), (28, .slice Ae es.length ce), (30, Ni ix), (34, Ni c0), (39, .agg #[Ni ix, Ni tm, Ni kd, .slice A10 d.length c11])] ?_
    refine gdo 1 [11] [(24, Pp g 0), (28, .slice Ae es.length ce), (30, Ni ix), (34, Ni c0), (35, .int .i64 (IntKind.i64.wrap (((ix : Nat) : Int) - ((c0 : Nat) : Int)))), (39, .agg #[Ni ix, Ni tm, Ni kd, .slice A10 d.length c11])] hS9 (PQ.th PQ.body) ?_
    refine gd_cv 35 (Ni (ix - c0)) (cv_i64 (by omega)) rfl ?_
    refine gdo 1 [12] [(24, Pp g 0), (28, .slice Ae es.length ce), (35, Ni (ix - c0)), (36, .int .i64 (IntKind.i64.wrap (((ix - c0 : Nat) : Int) - 1))), (39, .agg #[Ni ix, Ni tm, Ni kd, .slice A10 d.length c11])] hS9 (PQ.th PQ.body) ?_
    refine gd_cv 36 (Ni (ix - c0 - 1)) (cv_i64 (by omega)) rfl ?_
    obtain ⟨A9, hc9, hv9⟩ := hE.cut (by decide) 0 (ix - c0 - 1) (by omega) (by omega)
    have hR9 := en_take (by omega) hv9
    refine gdq 13 rfl (fun w_ hS => (rd_cut (e := 64) (m := 4) (by kernel_rfl) (by kernel_rfl) rfl (.inl ⟨rfl, rfl⟩) (.inr ⟨_, _, rfl, rfl⟩) hc9)) hS9 (PQ.th PQ.body) ?_
    refine gdk [(24, Pp g 0), (37, .slice A9 ((ix - c0 - 1) - 0) (ce - 0)), (39, .agg #[Ni ix, Ni tm, Ni kd, .slice A10 d.length c11])] ?_
    refine gd_st2 14 16 (by kernel_rfl) ?_ ?_
    ·
     refine st_call rfl rfl rfl (by kernel_rfl) rfl (EClone_ct _ (es.take (ix - c0 - 1)) _ (hR9.mono hH.zin) (enV_take hV _) (by rw [List.length_take]; omega)) ?_
     rintro _ w18 ⟨v16, rfl, hF19⟩
     replace hH := hH.call hF19; clear hF19
     obtain ⟨A20, c21, rfl, hl22, hm23⟩ := hH.row_form 3 rfl
     replace hS9 := hH.sublist (slc (slk (slk sln)))
     refine ⟨hS9, ?_⟩
     refine gdk [(24, Pp g 0), (38, .slice A20 ((es.take (ix - c0 - 1)).length) c21), (39, .agg #[Ni ix, Ni tm, Ni kd, .slice A10 d.length c11])] ?_
     refine gds 16 (st_buildS (e := 64) (zv := .agg #[.int .i64 0, .int .i64 0, .int .i64 0, .slice none 0 0]) (m := 4) (bytes := 48) rfl rfl rfl (by kernel_rfl) (by kernel_rfl) rfl (cs := [Ni ix, Ni tm, Ni kd, .slice A10 d.length c11]) (by kernel_rfl) rfl hH ?_)
     clear hH; intro b24 w25 hH
     replace hS9 := hH.sublist (slc (slk (slk sln)))
     refine ⟨hS9, ?_⟩
     refine gds 17 (st_appH (e := 64) (zv := .agg #[.int .i64 0, .int .i64 0, .int .i64 0, .slice none 0 0]) (m := 4) (bytes := 48) 3 rfl rfl rfl (by kernel_rfl) (by kernel_rfl) rfl (by decide) hH rfl rfl rfl (hH.row_reads 4 rfl) (by simp [Value.oneCell']) (by simp only [List.length_take]; unfold maxLen; omega) (by simp only [List.length_take]; omega) ?_)
     clear hH; intro v26 w27 hH
     replace hH := hH.row_eq 3 (l' := (es.take (ix - c0 - 1) ++ [((⟨ix, tm, kd, d⟩ : En), (Value.slice A10 d.length c11))]).length) (xs' := rowC enC (es.take (ix - c0 - 1) ++ [((⟨ix, tm, kd, d⟩ : En), (Value.slice A10 d.length c11))])) rfl (by rw [List.length_append]; rfl) (by rw [← rowC_app]; rfl)
     obtain ⟨A28, c29, rfl, hl30, hm31⟩ := hH.row_form 3 rfl
     replace hS9 := hH.sublist (slc (slk (slk sln)))
     refine ⟨hS9, ?_⟩
     refine gdo 2 [18,19] [(41, .slice A28 ((es.take (ix - c0 - 1) ++ [((⟨ix, tm, kd, d⟩ : En), (Value.slice A10 d.length c11))]).length) c29), (43, Pp g 4)] hS9 (PQ.th PQ.body) ?_
     refine gds 20 (st_storeK (v := .slice A28 ((es.take (ix - c0 - 1) ++ [((⟨ix, tm, kd, d⟩ : En), (Value.slice A10 d.length c11))]).length) c29) 0 rfl rfl rfl hH rfl rfl rfl (by kernel_rfl) rfl (by simp) ?_)
     clear hH; intro w32 hH
     replace hS9 := hH.sublist (slc (slk (slk sln)))
     refine ⟨hS9, ?_⟩
     refine gdn [] ?_
     refine sw_next ?_
     refine sw_sr ?_
     refine glo 1 [(4, .bool true)] ?_
     refine gl_dn rfl ?_
     refine sw_ret ?_
     refine ret1 rfl rfl  ?_
     replace hH := hH.fr3.fr4.fr3
     replace hH : Hp w w32 _ _ [_, _, _] := (hH.sublist (slk (slk (slk sln))))
     exact .inr ⟨_, _, rfl, by omega, hH.turned⟩
    ·
     refine st_buildS (e := 64) (zv := .agg #[.int .i64 0, .int .i64 0, .int .i64 0, .slice none 0 0]) (m := 4) (bytes := 48) rfl rfl rfl (by kernel_rfl) (by kernel_rfl) rfl (cs := [Ni ix, Ni tm, Ni kd, .slice A10 d.length c11]) (by kernel_rfl) rfl hH ?_
     clear hH; intro b33 w34 hH
     replace hS9 := hH.sublist (slc (slk (slk sln)))
     refine ⟨hS9, ?_⟩
     refine gdk [(24, Pp g 0), (37, .slice A9 ((ix - c0 - 1) - 0) (ce - 0)), (40, .slice (some ⟨b33, 0, none⟩) 1 1)] ?_
     refine gds 14 (st_call rfl rfl rfl (by kernel_rfl) rfl (EClone_ct _ (es.take (ix - c0 - 1)) _ (hR9.mono hH.zin) (enV_take hV _) (by rw [List.length_take]; omega)) ?_)
     rintro _ w37 ⟨v35, rfl, hF38⟩
     replace hH := hH.call hF38; clear hF38
     obtain ⟨A39, c40, rfl, hl41, hm42⟩ := hH.row_form 4 rfl
     replace hS9 := hH.sublist (slc (slk (slk sln)))
     refine ⟨hS9, ?_⟩
     refine gds 17 (st_appH (e := 64) (zv := .agg #[.int .i64 0, .int .i64 0, .int .i64 0, .slice none 0 0]) (m := 4) (bytes := 48) 4 rfl rfl rfl (by kernel_rfl) (by kernel_rfl) rfl (by decide) hH rfl rfl rfl (hH.row_reads 3 rfl) (by simp [Value.oneCell']) (by simp only [List.length_take]; unfold maxLen; omega) (by simp only [List.length_take]; omega) ?_)
     clear hH; intro v43 w44 hH
     replace hH := hH.row_eq 4 (l' := (es.take (ix - c0 - 1) ++ [((⟨ix, tm, kd, d⟩ : En), (Value.slice A10 d.length c11))]).length) (xs' := rowC enC (es.take (ix - c0 - 1) ++ [((⟨ix, tm, kd, d⟩ : En), (Value.slice A10 d.length c11))])) rfl (by rw [List.length_append]; rfl) (by rw [← rowC_app]; rfl)
     obtain ⟨A45, c46, rfl, hl47, hm48⟩ := hH.row_form 4 rfl
     replace hS9 := hH.sublist (slc (slk (slk sln)))
     refine ⟨hS9, ?_⟩
     refine gdo 2 [18,19] [(41, .slice A45 ((es.take (ix - c0 - 1) ++ [((⟨ix, tm, kd, d⟩ : En), (Value.slice A10 d.length c11))]).length) c46), (43, Pp g 4)] hS9 (PQ.th PQ.body) ?_
     refine gds 20 (st_storeK (v := .slice A45 ((es.take (ix - c0 - 1) ++ [((⟨ix, tm, kd, d⟩ : En), (Value.slice A10 d.length c11))]).length) c46) 0 rfl rfl rfl hH rfl rfl rfl (by kernel_rfl) rfl (by simp) ?_)
     clear hH; intro w49 hH
     replace hS9 := hH.sublist (slc (slk (slk sln)))
     refine ⟨hS9, ?_⟩
     refine gdn [] ?_
     refine sw_next ?_
     refine sw_sr ?_
     refine glo 1 [(4, .bool true)] ?_
     refine gl_dn rfl ?_
     refine sw_ret ?_
     refine ret1 rfl rfl  ?_
     replace hH := hH.fr3.fr5.fr3
     replace hH : Hp w w49 _ _ [_, _, _] := (hH.sublist (slk (slk (slk sln))))
     exact .inr ⟨_, _, rfl, by omega, hH.turned⟩
   ·
    refine st_buildS (e := 64) (zv := .agg #[.int .i64 0, .int .i64 0, .int .i64 0, .slice none 0 0]) (m := 4) (bytes := 48) rfl rfl rfl (by kernel_rfl) (by kernel_rfl) rfl (cs := [Ni ix, Ni tm, Ni kd, .slice A10 d.length c11]) (by kernel_rfl) rfl hH ?_
    clear hH; intro b50 w51 hH
    replace hS9 := hH.sublist (slc (slk (slk sln)))
    refine ⟨hS9, ?_⟩
    refine gdk [(24, Pp g 0), (28, .slice Ae es.length ce), (30, Ni ix), (33, Pp g 2), (40, .slice (some ⟨b50, 0, none⟩) 1 1)] ?_
    refine gds 10 (st_q rfl rfl rfl (rd_loadK 0 (by kernel_rfl) hH rfl rfl rfl) ?_)
    refine ⟨hS9, ?_⟩
    refine gdo 1 [11] [(24, Pp g 0), (28, .slice Ae es.length ce), (30, Ni ix), (34, Ni c0), (35, .int .i64 (IntKind.i64.wrap (((ix : Nat) : Int) - ((c0 : Nat) : Int)))), (40, .slice (some ⟨b50, 0, none⟩) 1 1)] hS9 (PQ.th PQ.body) ?_
    refine gd_cv 35 (Ni (ix - c0)) (cv_i64 (by omega)) rfl ?_
    refine gdo 1 [12] [(24, Pp g 0), (28, .slice Ae es.length ce), (35, Ni (ix - c0)), (36, .int .i64 (IntKind.i64.wrap (((ix - c0 : Nat) : Int) - 1))), (40, .slice (some ⟨b50, 0, none⟩) 1 1)] hS9 (PQ.th PQ.body) ?_
    refine gd_cv 36 (Ni (ix - c0 - 1)) (cv_i64 (by omega)) rfl ?_
    obtain ⟨A9, hc9, hv9⟩ := hE.cut (by decide) 0 (ix - c0 - 1) (by omega) (by omega)
    have hR9 := en_take (by omega) hv9
    refine gdq 13 rfl (fun w_ hS => (rd_cut (e := 64) (m := 4) (by kernel_rfl) (by kernel_rfl) rfl (.inl ⟨rfl, rfl⟩) (.inr ⟨_, _, rfl, rfl⟩) hc9)) hS9 (PQ.th PQ.body) ?_
    refine gdk [(24, Pp g 0), (37, .slice A9 ((ix - c0 - 1) - 0) (ce - 0)), (40, .slice (some ⟨b50, 0, none⟩) 1 1)] ?_
    refine gds 14 (st_call rfl rfl rfl (by kernel_rfl) rfl (EClone_ct _ (es.take (ix - c0 - 1)) _ (hR9.mono hH.zin) (enV_take hV _) (by rw [List.length_take]; omega)) ?_)
    rintro _ w54 ⟨v52, rfl, hF55⟩
    replace hH := hH.call hF55; clear hF55
    obtain ⟨A56, c57, rfl, hl58, hm59⟩ := hH.row_form 4 rfl
    replace hS9 := hH.sublist (slc (slk (slk sln)))
    refine ⟨hS9, ?_⟩
    refine gds 17 (st_appH (e := 64) (zv := .agg #[.int .i64 0, .int .i64 0, .int .i64 0, .slice none 0 0]) (m := 4) (bytes := 48) 4 rfl rfl rfl (by kernel_rfl) (by kernel_rfl) rfl (by decide) hH rfl rfl rfl (hH.row_reads 3 rfl) (by simp [Value.oneCell']) (by simp only [List.length_take]; unfold maxLen; omega) (by simp only [List.length_take]; omega) ?_)
    clear hH; intro v60 w61 hH
    replace hH := hH.row_eq 4 (l' := (es.take (ix - c0 - 1) ++ [((⟨ix, tm, kd, d⟩ : En), (Value.slice A10 d.length c11))]).length) (xs' := rowC enC (es.take (ix - c0 - 1) ++ [((⟨ix, tm, kd, d⟩ : En), (Value.slice A10 d.length c11))])) rfl (by rw [List.length_append]; rfl) (by rw [← rowC_app]; rfl)
    obtain ⟨A62, c63, rfl, hl64, hm65⟩ := hH.row_form 4 rfl
    replace hS9 := hH.sublist (slc (slk (slk sln)))
    refine ⟨hS9, ?_⟩
    refine gdo 2 [18,19] [(41, .slice A62 ((es.take (ix - c0 - 1) ++ [((⟨ix, tm, kd, d⟩ : En), (Value.slice A10 d.length c11))]).length) c63), (43, Pp g 4)] hS9 (PQ.th PQ.body) ?_
    refine gds 20 (st_storeK (v := .slice A62 ((es.take (ix - c0 - 1) ++ [((⟨ix, tm, kd, d⟩ : En), (Value.slice A10 d.length c11))]).length) c63) 0 rfl rfl rfl hH rfl rfl rfl (by kernel_rfl) rfl (by simp) ?_)
    clear hH; intro w66 hH
    replace hS9 := hH.sublist (slc (slk (slk sln)))
    refine ⟨hS9, ?_⟩
    refine gdn [] ?_
    refine sw_next ?_
    refine sw_sr ?_
    refine glo 1 [(4, .bool true)] ?_
    refine gl_dn rfl ?_
    refine sw_ret ?_
    refine ret1 rfl rfl  ?_
    replace hH := hH.fr3.fr5.fr3
    replace hH : Hp w w66 _ _ [_, _, _] := (hH.sublist (slk (slk (slk sln))))
    exact .inr ⟨_, _, rfl, by omega, hH.turned⟩
  ·
   refine st_q rfl rfl rfl (rd_loadK 0 (by kernel_rfl) hH rfl rfl rfl) ?_
   refine ⟨hS9, ?_⟩
   refine gdk [(24, Pp g 0), (27, Pp g 4), (30, Ni ix), (34, Ni c0), (39, .agg #[Ni ix, Ni tm, Ni kd, .slice A10 d.length c11])] ?_
   refine gdo 1 [11] [(24, Pp g 0), (27, Pp g 4), (30, Ni ix), (34, Ni c0), (35, .int .i64 (IntKind.i64.wrap (((ix : Nat) : Int) - ((c0 : Nat) : Int)))), (39, .agg #[Ni ix, Ni tm, Ni kd, .slice A10 d.length c11])] hS9 (PQ.th PQ.body) ?_
   refine gd_cv 35 (Ni (ix - c0)) (cv_i64 (by omega)) rfl ?_
   refine gdo 1 [12] [(24, Pp g 0), (27, Pp g 4), (35, Ni (ix - c0)), (36, .int .i64 (IntKind.i64.wrap (((ix - c0 : Nat) : Int) - 1))), (39, .agg #[Ni ix, Ni tm, Ni kd, .slice A10 d.length c11])] hS9 (PQ.th PQ.body) ?_
   refine gd_cv 36 (Ni (ix - c0 - 1)) (cv_i64 (by omega)) rfl ?_
   refine gd_st2 4 16 (by kernel_rfl) ?_ ?_
   ·
    refine st_q rfl rfl rfl (rd_loadK 0 (by kernel_rfl) hH rfl rfl rfl) ?_
    refine ⟨hS9, ?_⟩
    refine gdk [(24, Pp g 0), (28, .slice Ae es.length ce), (36, Ni (ix - c0 - 1)), (39, .agg #[Ni ix, Ni tm, Ni kd, .slice A10 d.length c11])] ?_
    obtain ⟨A9, hc9, hv9⟩ := hE.cut (by decide) 0 (ix - c0 - 1) (by omega) (by omega)
    have hR9 := en_take (by omega) hv9
    refine gdq 13 rfl (fun w_ hS => (rd_cut (e := 64) (m := 4) (by kernel_rfl) (by kernel_rfl) rfl (.inl ⟨rfl, rfl⟩) (.inr ⟨_, _, rfl, rfl⟩) hc9)) hS9 (PQ.th PQ.body) ?_
    refine gdk [(24, Pp g 0), (37, .slice A9 ((ix - c0 - 1) - 0) (ce - 0)), (39, .agg #[Ni ix, Ni tm, Ni kd, .slice A10 d.length c11])] ?_
    refine gd_st2 14 16 (by kernel_rfl) ?_ ?_
    ·
     refine st_call rfl rfl rfl (by kernel_rfl) rfl (EClone_ct _ (es.take (ix - c0 - 1)) _ (hR9.mono hH.zin) (enV_take hV _) (by rw [List.length_take]; omega)) ?_
     rintro _ w69 ⟨v67, rfl, hF70⟩
     replace hH := hH.call hF70; clear hF70
     obtain ⟨A71, c72, rfl, hl73, hm74⟩ := hH.row_form 3 rfl
     replace hS9 := hH.sublist (slc (slk (slk sln)))
     refine ⟨hS9, ?_⟩
     refine gdk [(24, Pp g 0), (38, .slice A71 ((es.take (ix - c0 - 1)).length) c72), (39, .agg #[Ni ix, Ni tm, Ni kd, .slice A10 d.length c11])] ?_
     refine gds 16 (st_buildS (e := 64) (zv := .agg #[.int .i64 0, .int .i64 0, .int .i64 0, .slice none 0 0]) (m := 4) (bytes := 48) rfl rfl rfl (by kernel_rfl) (by kernel_rfl) rfl (cs := [Ni ix, Ni tm, Ni kd, .slice A10 d.length c11]) (by kernel_rfl) rfl hH ?_)
     clear hH; intro b75 w76 hH
     replace hS9 := hH.sublist (slc (slk (slk sln)))
     refine ⟨hS9, ?_⟩
     refine gds 17 (st_appH (e := 64) (zv := .agg #[.int .i64 0, .int .i64 0, .int .i64 0, .slice none 0 0]) (m := 4) (bytes := 48) 3 rfl rfl rfl (by kernel_rfl) (by kernel_rfl) rfl (by decide) hH rfl rfl rfl (hH.row_reads 4 rfl) (by simp [Value.oneCell']) (by simp only [List.length_take]; unfold maxLen; omega) (by simp only [List.length_take]; omega) ?_)
     clear hH; intro v77 w78 hH
     replace hH := hH.row_eq 3 (l' := (es.take (ix - c0 - 1) ++ [((⟨ix, tm, kd, d⟩ : En), (Value.slice A10 d.length c11))]).length) (xs' := rowC enC (es.take (ix - c0 - 1) ++ [((⟨ix, tm, kd, d⟩ : En), (Value.slice A10 d.length c11))])) rfl (by rw [List.length_append]; rfl) (by rw [← rowC_app]; rfl)
     obtain ⟨A79, c80, rfl, hl81, hm82⟩ := hH.row_form 3 rfl
     replace hS9 := hH.sublist (slc (slk (slk sln)))
     refine ⟨hS9, ?_⟩
     refine gdo 2 [18,19] [(41, .slice A79 ((es.take (ix - c0 - 1) ++ [((⟨ix, tm, kd, d⟩ : En), (Value.slice A10 d.length c11))]).length) c80), (43, Pp g 4)] hS9 (PQ.th PQ.body) ?_
     refine gds 20 (st_storeK (v := .slice A79 ((es.take (ix - c0 - 1) ++ [((⟨ix, tm, kd, d⟩ : En), (Value.slice A10 d.length c11))]).length) c80) 0 rfl rfl rfl hH rfl rfl rfl (by kernel_rfl) rfl (by simp) ?_)
     clear hH; intro w83 hH
     replace hS9 := hH.sublist (slc (slk (slk sln)))
     refine ⟨hS9, ?_⟩
     refine gdn [] ?_
     refine sw_next ?_
     refine sw_sr ?_
     refine glo 1 [(4, .bool true)] ?_
     refine gl_dn rfl ?_
     refine sw_ret ?_
     refine ret1 rfl rfl  ?_
     replace hH := hH.fr3.fr4.fr3
     replace hH : Hp w w83 _ _ [_, _, _] := (hH.sublist (slk (slk (slk sln))))
     exact .inr ⟨_, _, rfl, by omega, hH.turned⟩
    ·
     refine st_buildS (e := 64) (zv := .agg #[.int .i64 0, .int .i64 0, .int .i64 0, .slice none 0 0]) (m := 4) (bytes := 48) rfl rfl rfl (by kernel_rfl) (by kernel_rfl) rfl (cs := [Ni ix, Ni tm, Ni kd, .slice A10 d.length c11]) (by kernel_rfl) rfl hH ?_
     clear hH; intro b84 w85 hH
     replace hS9 := hH.sublist (slc (slk (slk sln)))
     refine ⟨hS9, ?_⟩
     refine gdk [(24, Pp g 0), (37, .slice A9 ((ix - c0 - 1) - 0) (ce - 0)), (40, .slice (some ⟨b84, 0, none⟩) 1 1)] ?_
     refine gds 14 (st_call rfl rfl rfl (by kernel_rfl) rfl (EClone_ct _ (es.take (ix - c0 - 1)) _ (hR9.mono hH.zin) (enV_take hV _) (by rw [List.length_take]; omega)) ?_)
     rintro _ w88 ⟨v86, rfl, hF89⟩
     replace hH := hH.call hF89; clear hF89
     obtain ⟨A90, c91, rfl, hl92, hm93⟩ := hH.row_form 4 rfl
     replace hS9 := hH.sublist (slc (slk (slk sln)))
     refine ⟨hS9, ?_⟩
     refine gds 17 (st_appH (e := 64) (zv := .agg #[.int .i64 0, .int .i64 0, .int .i64 0, .slice none 0 0]) (m := 4) (bytes := 48) 4 rfl rfl rfl (by kernel_rfl) (by kernel_rfl) rfl (by decide) hH rfl rfl rfl (hH.row_reads 3 rfl) (by simp [Value.oneCell']) (by simp only [List.length_take]; unfold maxLen; omega) (by simp only [List.length_take]; omega) ?_)
     clear hH; intro v94 w95 hH
     replace hH := hH.row_eq 4 (l' := (es.take (ix - c0 - 1) ++ [((⟨ix, tm, kd, d⟩ : En), (Value.slice A10 d.length c11))]).length) (xs' := rowC enC (es.take (ix - c0 - 1) ++ [((⟨ix, tm, kd, d⟩ : En), (Value.slice A10 d.length c11))])) rfl (by rw [List.length_append]; rfl) (by rw [← rowC_app]; rfl)
     obtain ⟨A96, c97, rfl, hl98, hm99⟩ := hH.row_form 4 rfl
     replace hS9 := hH.sublist (slc (slk (slk sln)))
     refine ⟨hS9, ?_⟩
     refine gdo 2 [18,19] [(41, .slice A96 ((es.take (ix - c0 - 1) ++ [((⟨ix, tm, kd, d⟩ : En), (Value.slice A10 d.length c11))]).length) c97), (43, Pp g 4)] hS9 (PQ.th PQ.body) ?_
     refine gds 20 (st_storeK (v := .slice A96 ((es.take (ix - c0 - 1) ++ [((⟨ix, tm, kd, d⟩ : En), (Value.slice A10 d.length c11))]).length) c97) 0 rfl rfl rfl hH rfl rfl rfl (by kernel_rfl) rfl (by simp) ?_)
     clear hH; intro w100 hH
     replace hS9 := hH.sublist (slc (slk (slk sln)))
     refine ⟨hS9, ?_⟩
     refine gdn [] ?_
     refine sw_next ?_
     refine sw_sr ?_
     refine glo 1 [(4, .bool true)] ?_
     refine gl_dn rfl ?_
     refine sw_ret ?_
     refine ret1 rfl rfl  ?_
     replace hH := hH.fr3.fr5.fr3
     replace hH : Hp w w100 _ _ [_, _, _] := (hH.sublist (slk (slk (slk sln))))
     exact .inr ⟨_, _, rfl, by omega, hH.turned⟩
   ·
    refine st_buildS (e := 64) (zv := .agg #[.int .i64 0, .int .i64 0, .int .i64 0, .slice none 0 0]) (m := 4) (bytes := 48) rfl rfl rfl (by kernel_rfl) (by kernel_rfl) rfl (cs := [Ni ix, Ni tm, Ni kd, .slice A10 d.length c11]) (by kernel_rfl) rfl hH ?_
    clear hH; intro b101 w102 hH
    replace hS9 := hH.sublist (slc (slk (slk sln)))
    refine ⟨hS9, ?_⟩
    refine gdk [(24, Pp g 0), (27, Pp g 4), (36, Ni (ix - c0 - 1)), (40, .slice (some ⟨b101, 0, none⟩) 1 1)] ?_
    refine gds 4 (st_q rfl rfl rfl (rd_loadK 0 (by kernel_rfl) hH rfl rfl rfl) ?_)
    refine ⟨hS9, ?_⟩
    obtain ⟨A9, hc9, hv9⟩ := hE.cut (by decide) 0 (ix - c0 - 1) (by omega) (by omega)
    have hR9 := en_take (by omega) hv9
    refine gdq 13 rfl (fun w_ hS => (rd_cut (e := 64) (m := 4) (by kernel_rfl) (by kernel_rfl) rfl (.inl ⟨rfl, rfl⟩) (.inr ⟨_, _, rfl, rfl⟩) hc9)) hS9 (PQ.th PQ.body) ?_
    refine gdk [(24, Pp g 0), (37, .slice A9 ((ix - c0 - 1) - 0) (ce - 0)), (40, .slice (some ⟨b101, 0, none⟩) 1 1)] ?_
    refine gds 14 (st_call rfl rfl rfl (by kernel_rfl) rfl (EClone_ct _ (es.take (ix - c0 - 1)) _ (hR9.mono hH.zin) (enV_take hV _) (by rw [List.length_take]; omega)) ?_)
    rintro _ w105 ⟨v103, rfl, hF106⟩
    replace hH := hH.call hF106; clear hF106
    obtain ⟨A107, c108, rfl, hl109, hm110⟩ := hH.row_form 4 rfl
    replace hS9 := hH.sublist (slc (slk (slk sln)))
    refine ⟨hS9, ?_⟩
    refine gds 17 (st_appH (e := 64) (zv := .agg #[.int .i64 0, .int .i64 0, .int .i64 0, .slice none 0 0]) (m := 4) (bytes := 48) 4 rfl rfl rfl (by kernel_rfl) (by kernel_rfl) rfl (by decide) hH rfl rfl rfl (hH.row_reads 3 rfl) (by simp [Value.oneCell']) (by simp only [List.length_take]; unfold maxLen; omega) (by simp only [List.length_take]; omega) ?_)
    clear hH; intro v111 w112 hH
    replace hH := hH.row_eq 4 (l' := (es.take (ix - c0 - 1) ++ [((⟨ix, tm, kd, d⟩ : En), (Value.slice A10 d.length c11))]).length) (xs' := rowC enC (es.take (ix - c0 - 1) ++ [((⟨ix, tm, kd, d⟩ : En), (Value.slice A10 d.length c11))])) rfl (by rw [List.length_append]; rfl) (by rw [← rowC_app]; rfl)
    obtain ⟨A113, c114, rfl, hl115, hm116⟩ := hH.row_form 4 rfl
    replace hS9 := hH.sublist (slc (slk (slk sln)))
    refine ⟨hS9, ?_⟩
    refine gdo 2 [18,19] [(41, .slice A113 ((es.take (ix - c0 - 1) ++ [((⟨ix, tm, kd, d⟩ : En), (Value.slice A10 d.length c11))]).length) c114), (43, Pp g 4)] hS9 (PQ.th PQ.body) ?_
    refine gds 20 (st_storeK (v := .slice A113 ((es.take (ix - c0 - 1) ++ [((⟨ix, tm, kd, d⟩ : En), (Value.slice A10 d.length c11))]).length) c114) 0 rfl rfl rfl hH rfl rfl rfl (by kernel_rfl) rfl (by simp) ?_)
    clear hH; intro w117 hH
    replace hS9 := hH.sublist (slc (slk (slk sln)))
    refine ⟨hS9, ?_⟩
    refine gdn [] ?_
    refine sw_next ?_
    refine sw_sr ?_
    refine glo 1 [(4, .bool true)] ?_
    refine gl_dn rfl ?_
    refine sw_ret ?_
    refine ret1 rfl rfl  ?_
    replace hH := hH.fr3.fr5.fr3
    replace hH : Hp w w117 _ _ [_, _, _] := (hH.sublist (slk (slk (slk sln))))
    exact .inr ⟨_, _, rfl, by omega, hH.turned⟩
  ·
   refine st_buildS (e := 64) (zv := .agg #[.int .i64 0, .int .i64 0, .int .i64 0, .slice none 0 0]) (m := 4) (bytes := 48) rfl rfl rfl (by kernel_rfl) (by kernel_rfl) rfl (cs := [Ni ix, Ni tm, Ni kd, .slice A10 d.length c11]) (by kernel_rfl) rfl hH ?_
   clear hH; intro b118 w119 hH
   replace hS9 := hH.sublist (slc (slk (slk sln)))
   refine ⟨hS9, ?_⟩
   refine gdk [(24, Pp g 0), (27, Pp g 4), (30, Ni ix), (33, Pp g 2), (40, .slice (some ⟨b118, 0, none⟩) 1 1)] ?_
   refine gd_st2 4 10 (by kernel_rfl) ?_ ?_
   ·
    refine st_q rfl rfl rfl (rd_loadK 0 (by kernel_rfl) hH rfl rfl rfl) ?_
    refine ⟨hS9, ?_⟩
    refine gdk [(24, Pp g 0), (28, .slice Ae es.length ce), (30, Ni ix), (33, Pp g 2), (40, .slice (some ⟨b118, 0, none⟩) 1 1)] ?_
    refine gds 10 (st_q rfl rfl rfl (rd_loadK 0 (by kernel_rfl) hH rfl rfl rfl) ?_)
    refine ⟨hS9, ?_⟩
    refine gdo 1 [11] [(24, Pp g 0), (28, .slice Ae es.length ce), (30, Ni ix), (34, Ni c0), (35, .int .i64 (IntKind.i64.wrap (((ix : Nat) : Int) - ((c0 : Nat) : Int)))), (40, .slice (some ⟨b118, 0, none⟩) 1 1)] hS9 (PQ.th PQ.body) ?_
    refine gd_cv 35 (Ni (ix - c0)) (cv_i64 (by omega)) rfl ?_
    refine gdo 1 [12] [(24, Pp g 0), (28, .slice Ae es.length ce), (35, Ni (ix - c0)), (36, .int .i64 (IntKind.i64.wrap (((ix - c0 : Nat) : Int) - 1))), (40, .slice (some ⟨b118, 0, none⟩) 1 1)] hS9 (PQ.th PQ.body) ?_
    refine gd_cv 36 (Ni (ix - c0 - 1)) (cv_i64 (by omega)) rfl ?_
    obtain ⟨A9, hc9, hv9⟩ := hE.cut (by decide) 0 (ix - c0 - 1) (by omega) (by omega)
    have hR9 := en_take (by omega) hv9
    refine gdq 13 rfl (fun w_ hS => (rd_cut (e := 64) (m := 4) (by kernel_rfl) (by kernel_rfl) rfl (.inl ⟨rfl, rfl⟩) (.inr ⟨_, _, rfl, rfl⟩) hc9)) hS9 (PQ.th PQ.body) ?_
    refine gdk [(24, Pp g 0), (37, .slice A9 ((ix - c0 - 1) - 0) (ce - 0)), (40, .slice (some ⟨b118, 0, none⟩) 1 1)] ?_
    refine gds 14 (st_call rfl rfl rfl (by kernel_rfl) rfl (EClone_ct _ (es.take (ix - c0 - 1)) _ (hR9.mono hH.zin) (enV_take hV _) (by rw [List.length_take]; omega)) ?_)
    rintro _ w122 ⟨v120, rfl, hF123⟩
    replace hH := hH.call hF123; clear hF123
    obtain ⟨A124, c125, rfl, hl126, hm127⟩ := hH.row_form 4 rfl
    replace hS9 := hH.sublist (slc (slk (slk sln)))
    refine ⟨hS9, ?_⟩
    refine gds 17 (st_appH (e := 64) (zv := .agg #[.int .i64 0, .int .i64 0, .int .i64 0, .slice none 0 0]) (m := 4) (bytes := 48) 4 rfl rfl rfl (by kernel_rfl) (by kernel_rfl) rfl (by decide) hH rfl rfl rfl (hH.row_reads 3 rfl) (by simp [Value.oneCell']) (by simp only [List.length_take]; unfold maxLen; omega) (by simp only [List.length_take]; omega) ?_)
    clear hH; intro v128 w129 hH
    replace hH := hH.row_eq 4 (l' := (es.take (ix - c0 - 1) ++ [((⟨ix, tm, kd, d⟩ : En), (Value.slice A10 d.length c11))]).length) (xs' := rowC enC (es.take (ix - c0 - 1) ++ [((⟨ix, tm, kd, d⟩ : En), (Value.slice A10 d.length c11))])) rfl (by rw [List.length_append]; rfl) (by rw [← rowC_app]; rfl)
    obtain ⟨A130, c131, rfl, hl132, hm133⟩ := hH.row_form 4 rfl
    replace hS9 := hH.sublist (slc (slk (slk sln)))
    refine ⟨hS9, ?_⟩
    refine gdo 2 [18,19] [(41, .slice A130 ((es.take (ix - c0 - 1) ++ [((⟨ix, tm, kd, d⟩ : En), (Value.slice A10 d.length c11))]).length) c131), (43, Pp g 4)] hS9 (PQ.th PQ.body) ?_
    refine gds 20 (st_storeK (v := .slice A130 ((es.take (ix - c0 - 1) ++ [((⟨ix, tm, kd, d⟩ : En), (Value.slice A10 d.length c11))]).length) c131) 0 rfl rfl rfl hH rfl rfl rfl (by kernel_rfl) rfl (by simp) ?_)
    clear hH; intro w134 hH
    replace hS9 := hH.sublist (slc (slk (slk sln)))
    refine ⟨hS9, ?_⟩
    refine gdn [] ?_
    refine sw_next ?_
    refine sw_sr ?_
    refine glo 1 [(4, .bool true)] ?_
    refine gl_dn rfl ?_
    refine sw_ret ?_
    refine ret1 rfl rfl  ?_
    replace hH := hH.fr3.fr5.fr3
    replace hH : Hp w w134 _ _ [_, _, _] := (hH.sublist (slk (slk (slk sln))))
    exact .inr ⟨_, _, rfl, by omega, hH.turned⟩
   ·
    refine st_q rfl rfl rfl (rd_loadK 0 (by kernel_rfl) hH rfl rfl rfl) ?_
    refine ⟨hS9, ?_⟩
    refine gdk [(24, Pp g 0), (27, Pp g 4), (30, Ni ix), (34, Ni c0), (40, .slice (some ⟨b118, 0, none⟩) 1 1)] ?_
    refine gdo 1 [11] [(24, Pp g 0), (27, Pp g 4), (30, Ni ix), (34, Ni c0), (35, .int .i64 (IntKind.i64.wrap (((ix : Nat) : Int) - ((c0 : Nat) : Int)))), (40, .slice (some ⟨b118, 0, none⟩) 1 1)] hS9 (PQ.th PQ.body) ?_
    refine gd_cv 35 (Ni (ix - c0)) (cv_i64 (by omega)) rfl ?_
    refine gdo 1 [12] [(24, Pp g 0), (27, Pp g 4), (35, Ni (ix - c0)), (36, .int .i64 (IntKind.i64.wrap (((ix - c0 : Nat) : Int) - 1))), (40, .slice (some ⟨b118, 0, none⟩) 1 1)] hS9 (PQ.th PQ.body) ?_
    refine gd_cv 36 (Ni (ix - c0 - 1)) (cv_i64 (by omega)) rfl ?_
    refine gds 4 (st_q rfl rfl rfl (rd_loadK 0 (by kernel_rfl) hH rfl rfl rfl) ?_)
    refine ⟨hS9, ?_⟩
    obtain ⟨A9, hc9, hv9⟩ := hE.cut (by decide) 0 (ix - c0 - 1) (by omega) (by omega)
    have hR9 := en_take (by omega) hv9
    refine gdq 13 rfl (fun w_ hS => (rd_cut (e := 64) (m := 4) (by kernel_rfl) (by kernel_rfl) rfl (.inl ⟨rfl, rfl⟩) (.inr ⟨_, _, rfl, rfl⟩) hc9)) hS9 (PQ.th PQ.body) ?_
    refine gdk [(24, Pp g 0), (37, .slice A9 ((ix - c0 - 1) - 0) (ce - 0)), (40, .slice (some ⟨b118, 0, none⟩) 1 1)] ?_
    refine gds 14 (st_call rfl rfl rfl (by kernel_rfl) rfl (EClone_ct _ (es.take (ix - c0 - 1)) _ (hR9.mono hH.zin) (enV_take hV _) (by rw [List.length_take]; omega)) ?_)
    rintro _ w137 ⟨v135, rfl, hF138⟩
    replace hH := hH.call hF138; clear hF138
    obtain ⟨A139, c140, rfl, hl141, hm142⟩ := hH.row_form 4 rfl
    replace hS9 := hH.sublist (slc (slk (slk sln)))
    refine ⟨hS9, ?_⟩
    refine gds 17 (st_appH (e := 64) (zv := .agg #[.int .i64 0, .int .i64 0, .int .i64 0, .slice none 0 0]) (m := 4) (bytes := 48) 4 rfl rfl rfl (by kernel_rfl) (by kernel_rfl) rfl (by decide) hH rfl rfl rfl (hH.row_reads 3 rfl) (by simp [Value.oneCell']) (by simp only [List.length_take]; unfold maxLen; omega) (by simp only [List.length_take]; omega) ?_)
    clear hH; intro v143 w144 hH
    replace hH := hH.row_eq 4 (l' := (es.take (ix - c0 - 1) ++ [((⟨ix, tm, kd, d⟩ : En), (Value.slice A10 d.length c11))]).length) (xs' := rowC enC (es.take (ix - c0 - 1) ++ [((⟨ix, tm, kd, d⟩ : En), (Value.slice A10 d.length c11))])) rfl (by rw [List.length_append]; rfl) (by rw [← rowC_app]; rfl)
    obtain ⟨A145, c146, rfl, hl147, hm148⟩ := hH.row_form 4 rfl
    replace hS9 := hH.sublist (slc (slk (slk sln)))
    refine ⟨hS9, ?_⟩
    refine gdo 2 [18,19] [(41, .slice A145 ((es.take (ix - c0 - 1) ++ [((⟨ix, tm, kd, d⟩ : En), (Value.slice A10 d.length c11))]).length) c146), (43, Pp g 4)] hS9 (PQ.th PQ.body) ?_
    refine gds 20 (st_storeK (v := .slice A145 ((es.take (ix - c0 - 1) ++ [((⟨ix, tm, kd, d⟩ : En), (Value.slice A10 d.length c11))]).length) c146) 0 rfl rfl rfl hH rfl rfl rfl (by kernel_rfl) rfl (by simp) ?_)
    clear hH; intro w149 hH
    replace hS9 := hH.sublist (slc (slk (slk sln)))
    refine ⟨hS9, ?_⟩
    refine gdn [] ?_
    refine sw_next ?_
    refine sw_sr ?_
    refine glo 1 [(4, .bool true)] ?_
    refine gl_dn rfl ?_
    refine sw_ret ?_
    refine ret1 rfl rfl  ?_
    replace hH := hH.fr3.fr5.fr3
    replace hH : Hp w w149 _ _ [_, _, _] := (hH.sublist (slk (slk (slk sln))))
    exact .inr ⟨_, _, rfl, by omega, hH.turned⟩
theorem Put1_ct (g c0 ix tm kd : Nat) (te vo ah : Int) (db : Nat) (fi lo : Int) (bad : Value) (ve vd : Value) (es : EQ) (d : List UInt8) (w : World) (hM : Mine w [.blk g 96 [.pointer (some ⟨db, 0, none⟩), .int .i64 te, .int .i64 vo, .int .i64 ((c0 : Nat) : Int), .int .i64 ah, ve, .int .i64 fi, .int .i64 lo, bad]]) (hE : Row (off w (blksOf [.blk g 96 [.pointer (some ⟨db, 0, none⟩), .int .i64 te, .int .i64 vo, .int .i64 ((c0 : Nat) : Int), .int .i64 ah, ve, .int .i64 fi, .int .i64 lo, bad]])) ve 4 es.length (rowC enC es)) (hV : EnV es) (hd : RB (off w (blksOf [.blk g 96 [.pointer (some ⟨db, 0, none⟩), .int .i64 te, .int .i64 vo, .int .i64 ((c0 : Nat) : Int), .int .i64 ah, ve, .int .i64 fi, .int .i64 lo, bad]])) vd d) (hl : es.length ≤ 1000000) (hx : ix < 9223372036854775808) (hcx : c0 + es.length < 9223372036854775808) (hdl : d.length ≤ 1048576) :
    Fun Tryz.prog 48 [.pointer (some ⟨g, 1, none⟩), .agg #[.int .i64 ((ix : Nat) : Int), .int .i64 ((tm : Nat) : Int), .int .i64 ((kd : Nat) : Int), vd]] w fun v w' => (v = .bool false ∧ (ix ≤ c0 ∨ c0 + es.length < ix - 1) ∧ Turn w w' [.blk g 96 [.pointer (some ⟨db, 0, none⟩), .int .i64 te, .int .i64 vo, .int .i64 ((c0 : Nat) : Int), .int .i64 ah, ve, .int .i64 fi, .int .i64 lo, bad]] [.blk g 96 [.pointer (some ⟨db, 0, none⟩), .int .i64 te, .int .i64 vo, .int .i64 ((c0 : Nat) : Int), .int .i64 ah, ve, .int .i64 fi, .int .i64 lo, bad]]) ∨ (∃ v1 vd2, v = .bool true ∧ ¬ (ix ≤ c0 ∨ c0 + es.length < ix - 1) ∧ Turn w w' [.blk g 96 [.pointer (some ⟨db, 0, none⟩), .int .i64 te, .int .i64 vo, .int .i64 ((c0 : Nat) : Int), .int .i64 ah, ve, .int .i64 fi, .int .i64 lo, bad]] [.blk g 96 [.pointer (some ⟨db, 0, none⟩), .int .i64 te, .int .i64 vo, .int .i64 ((c0 : Nat) : Int), .int .i64 ah, v1, .int .i64 fi, .int .i64 lo, bad], .row v1 64 4 (es.take (ix - c0 - 1) ++ [((⟨ix, tm, kd, d⟩ : En), vd2)]).length (rowC enC (es.take (ix - c0 - 1) ++ [((⟨ix, tm, kd, d⟩ : En), vd2)])), .row vd2 5 1 d.length (bv d)]) := by
 obtain ⟨Ae, ce, rfl, he1, he2⟩ := hE.form
 obtain ⟨Ad, cd, rfl, hd1, hd2⟩ := hd.row.form
 refine fun_of_sw Tryz.func48 rfl 44 rfl rfl ?_
 have hH := Hp.start_mine hM
 refine sw_sr ?_
 refine gl_st (st_boxH (cs := [Ni ix, Ni tm, Ni kd, .slice Ad d.length cd]) rfl rfl rfl rfl hH ?_)
 clear hH; intro b1 w2 hH
 refine glo 1 [(0, Pp g 1), (3, Pp b1 0)] ?_
 refine gl_dn rfl ?_
 refine sw_seq ?_
 refine sw_seq ?_
 refine sw_draw (by kernel_rfl) (fun w_ => Hp w w_ (off w (blksOf [.blk g 96 [.pointer (some ⟨db, 0, none⟩), .int .i64 te, .int .i64 vo, .int .i64 ((c0 : Nat) : Int), .int .i64 ah, (.slice Ae es.length ce), .int .i64 fi, .int .i64 lo, bad]])) (blksOf [.blk g 96 [.pointer (some ⟨db, 0, none⟩), .int .i64 te, .int .i64 vo, .int .i64 ((c0 : Nat) : Int), .int .i64 ah, (.slice Ae es.length ce), .int .i64 fi, .int .i64 lo, bad]]) [.blk g 96 [Pp db 0, .int .i64 te, .int .i64 vo, Ni c0, .int .i64 ah, .slice Ae es.length ce, .int .i64 fi, .int .i64 lo, bad], .blk b1 64 [Ni ix, Ni tm, Ni kd, .slice Ad d.length cd]]) ?_
 replace hH := hH.drew
 generalize { w2 with drawn := w2.drawn + 1 } = w3 at hH ⊢
 have hS9 := hH.sublist (slk (slk sln))
 refine gdo 1 [0] [(0, Pp g 1), (3, Pp b1 0), (5, Pp b1 0)] hS9 (PQ.th (PQ.th PQ.body)) ?_
 refine gdq 1 rfl (fun w_ hS => (rd_loadK 1 (by kernel_rfl) hS rfl rfl rfl)) hS9 (PQ.th (PQ.th PQ.body)) ?_
 refine gdo 3 [2,3,4] [(0, Pp g 1), (3, Pp b1 0), (6, Ni ix), (9, Pp g 3)] hS9 (PQ.th (PQ.th PQ.body)) ?_
 refine gdq 5 rfl (fun w_ hS => (rd_loadK 0 (by kernel_rfl) hS rfl rfl rfl)) hS9 (PQ.th (PQ.th PQ.body)) ?_
 refine gdo 2 [6,7] [(0, Pp g 1), (3, Pp b1 0), (12, .bool (decide (((ix : Nat) : Int) ≤ ((c0 : Nat) : Int))))] hS9 (PQ.th (PQ.th PQ.body)) ?_
 refine gd_split 12 (b := decide (((ix : Nat) : Int) ≤ ((c0 : Nat) : Int))) rfl (fun hg1 => ?_) (fun hg1 => ?_)
 ·
  try simp only [decide_eq_true_eq] at hg1
  refine gdo 7 [8,9,10,11,12,13,14] [(0, Pp g 1), (3, Pp b1 0), (19, .bool true)] hS9 (PQ.th (PQ.th PQ.body)) ?_
  refine gdn [(0, Pp g 1), (3, Pp b1 0), (19, .bool true)] ?_
  refine sw_next ?_
  refine sw_true rfl rfl ?_
  refine sw_sr ?_
  refine glo 1 [(4, .bool false)] ?_
  refine gl_dn rfl ?_
  refine sw_ret ?_
  refine thR ?_
  refine ret1 rfl rfl  ?_
  replace hH : Hp w w3 _ _ [_] := (hH.sublist (slk sln))
  exact .inl ⟨rfl, by omega, hH.turned⟩
 ·
  try simp only [decide_eq_false_iff_not, Int.not_lt, Int.not_le] at hg1
  refine gdo 1 [8] [(0, Pp g 1), (3, Pp b1 0), (12, .bool false), (13, Pp b1 0)] hS9 (PQ.th (PQ.th PQ.body)) ?_
  refine gdq 9 rfl (fun w_ hS => (rd_loadK 1 (by kernel_rfl) hS rfl rfl rfl)) hS9 (PQ.th (PQ.th PQ.body)) ?_
  refine gdo 1 [10] [(0, Pp g 1), (3, Pp b1 0), (12, .bool false), (14, Ni ix), (15, .int .i64 (IntKind.i64.wrap (((ix : Nat) : Int) - 1)))] hS9 (PQ.th (PQ.th PQ.body)) ?_
  refine gd_cv 15 (Ni (ix - 1)) (cv_i64 (by omega)) rfl ?_
  refine gdo 1 [11] [(0, Pp g 1), (3, Pp b1 0), (12, .bool false), (15, Ni (ix - 1)), (16, Pp g 1)] hS9 (PQ.th (PQ.th PQ.body)) ?_
  refine gds 12 (st_call rfl rfl rfl (by kernel_rfl) rfl (End1_ct g c0 es.length ce Ae _ (hH.blk_cell 0 rfl rfl) (hH.blk_cell 0 rfl rfl) (by omega)) ?_)
  rintro _ w4 ⟨rfl, hF5⟩
  replace hH := hH.call hF5; clear hF5
  replace hS9 := hH.sublist (slk (slk sln))
  refine ⟨hS9, ?_⟩
  refine gdo 2 [13,14] [(0, Pp g 1), (3, Pp b1 0), (19, .bool (decide (((ix - 1 : Nat) : Int) > ((c0 + es.length : Nat) : Int))))] hS9 (PQ.th (PQ.th PQ.body)) ?_
  refine gdn [(0, Pp g 1), (3, Pp b1 0), (19, .bool (decide (((ix - 1 : Nat) : Int) > ((c0 + es.length : Nat) : Int))))] ?_
  refine sw_next ?_
  refine sw_cond rfl rfl (fun hc3 => ?_) (fun hc3 => ?_)
  ·
   try simp only [decide_eq_true_eq] at hc3
   refine sw_sr ?_
   refine glo 1 [(4, .bool false)] ?_
   refine gl_dn rfl ?_
   refine sw_ret ?_
   refine thR ?_
   refine ret1 rfl rfl  ?_
   replace hH : Hp w w4 _ _ [_] := (hH.sublist (slk sln))
   exact .inl ⟨rfl, by omega, hH.turned⟩
  try simp only [decide_eq_false_iff_not, Int.not_lt, Int.not_le] at hc3
  refine sw_skip ?_
  refine sw_next ?_
  refine sw_sr ?_
  refine glo 1 [(0, Pp g 1), (3, Pp b1 0), (20, Pp b1 3)] ?_
  refine gl_q rfl rfl rfl (rd_loadK 1 (by kernel_rfl) hH rfl rfl rfl) ?_
  refine gl_st (st_call rfl rfl rfl (by kernel_rfl) rfl (SClone_ct _ d _ (hd.mono hH.zin) (by omega)) ?_)
  rintro _ w8 ⟨v6, rfl, hF9⟩
  replace hH := hH.call hF9; clear hF9
  obtain ⟨A10, c11, rfl, hl12, hm13⟩ := hH.row_form 2 rfl
  refine glo 1 [(0, Pp g 1), (3, Pp b1 0), (22, .slice A10 d.length c11), (23, Pp b1 3)] ?_
  refine gl_st (st_storeK (v := .slice A10 d.length c11) 1 rfl rfl rfl hH rfl rfl rfl (by kernel_rfl) rfl (by simp) ?_)
  clear hH; intro w14 hH
  refine gl_dn rfl ?_
  refine sw_seq ?_
  refine sw_draw (by kernel_rfl) (fun w_ => Hp w w_ (off w (blksOf [.blk g 96 [.pointer (some ⟨db, 0, none⟩), .int .i64 te, .int .i64 vo, .int .i64 ((c0 : Nat) : Int), .int .i64 ah, (.slice Ae es.length ce), .int .i64 fi, .int .i64 lo, bad]])) (blksOf [.blk g 96 [.pointer (some ⟨db, 0, none⟩), .int .i64 te, .int .i64 vo, .int .i64 ((c0 : Nat) : Int), .int .i64 ah, (.slice Ae es.length ce), .int .i64 fi, .int .i64 lo, bad]]) [.blk b1 64 [Ni ix, Ni tm, Ni kd, .slice A10 d.length c11], .row (.slice A10 d.length c11) 5 1 d.length (bv d)]) ?_
  replace hH := hH.drew
  generalize { w14 with drawn := w14.drawn + 1 } = w15 at hH ⊢
  have hS9 := hH.sublist (slc (slk (slk sln)))
  refine gdo 5 [0,1,2,3,5] [(0, Pp g 1), (3, Pp b1 0), (24, Pp g 1), (27, Pp g 5), (29, Pp b1 0)] hS9 (PQ.th PQ.body) ?_
  refine gdq 6 rfl (fun w_ hS => (rd_loadK 0 (by kernel_rfl) hS rfl rfl rfl)) hS9 (PQ.th PQ.body) ?_
  refine gdo 3 [7,8,9] [(3, Pp b1 0), (24, Pp g 1), (27, Pp g 5), (30, Ni ix), (33, Pp g 3)] hS9 (PQ.th PQ.body) ?_
  refine gdq 15 rfl (fun w_ hS => (rd_loadKA (m := 4) 0 (by kernel_rfl) hS rfl rfl (by kernel_rfl) [Ni ix, Ni tm, Ni kd, .slice A10 d.length c11] rfl rfl)) hS9 (PQ.th PQ.body) ?_
  refine gd_st3 4 10 16 (by kernel_rfl) ?_ ?_ ?_
  ·
   refine st_q rfl rfl rfl (rd_loadK 0 (by kernel_rfl) hH rfl rfl rfl) ?_
   refine ⟨hS9, ?_⟩
   refine gdk [(24, Pp g 1), (28, .slice Ae es.length ce), (30, Ni ix), (33, Pp g 3), (39, .agg #[Ni ix, Ni tm, Ni kd, .slice A10 d.length c11])] ?_
   refine gd_st2 10 16 (by kernel_rfl) ?_ ?_
   ·
    refine st_q rfl rfl rfl (rd_loadK 0 (by kernel_rfl) hH rfl rfl rfl) ?_
    refine ⟨hS9, ?_⟩
    refine gdk [(24, Pp g 1), (28, .slice Ae es.length ce), (30, Ni ix), (34, Ni c0), (39, .agg #[Ni ix, Ni tm, Ni kd, .slice A10 d.length c11])] ?_
    refine gdo 1 [11] [(24, Pp g 1), (28, .slice Ae es.length ce), (30, Ni ix), (34, Ni c0), (35, .int .i64 (IntKind.i64.wrap (((ix : Nat) : Int) - ((c0 : Nat) : Int)))), (39, .agg #[Ni ix, Ni tm, Ni kd, .slice A10 d.length c11])] hS9 (PQ.th PQ.body) ?_
    refine gd_cv 35 (Ni (ix - c0)) (cv_i64 (by omega)) rfl ?_
    refine gdo 1 [12] [(24, Pp g 1), (28, .slice Ae es.length ce), (35, Ni (ix - c0)), (36, .int .i64 (IntKind.i64.wrap (((ix - c0 : Nat) : Int) - 1))), (39, .agg #[Ni ix, Ni tm, Ni kd, .slice A10 d.length c11])] hS9 (PQ.th PQ.body) ?_
    refine gd_cv 36 (Ni (ix - c0 - 1)) (cv_i64 (by omega)) rfl ?_
    obtain ⟨A9, hc9, hv9⟩ := hE.cut (by decide) 0 (ix - c0 - 1) (by omega) (by omega)
    have hR9 := en_take (by omega) hv9
    refine gdq 13 rfl (fun w_ hS => (rd_cut (e := 64) (m := 4) (by kernel_rfl) (by kernel_rfl) rfl (.inl ⟨rfl, rfl⟩) (.inr ⟨_, _, rfl, rfl⟩) hc9)) hS9 (PQ.th PQ.body) ?_
    refine gdk [(24, Pp g 1), (37, .slice A9 ((ix - c0 - 1) - 0) (ce - 0)), (39, .agg #[Ni ix, Ni tm, Ni kd, .slice A10 d.length c11])] ?_
    refine gd_st2 14 16 (by kernel_rfl) ?_ ?_
    ·
     refine st_call rfl rfl rfl (by kernel_rfl) rfl (EClone_ct _ (es.take (ix - c0 - 1)) _ (hR9.mono hH.zin) (enV_take hV _) (by rw [List.length_take]; omega)) ?_
     rintro _ w18 ⟨v16, rfl, hF19⟩
     replace hH := hH.call hF19; clear hF19
     obtain ⟨A20, c21, rfl, hl22, hm23⟩ := hH.row_form 3 rfl
     replace hS9 := hH.sublist (slc (slk (slk sln)))
     refine ⟨hS9, ?_⟩
     refine gdk [(24, Pp g 1), (38, .slice A20 ((es.take (ix - c0 - 1)).length) c21), (39, .agg #[Ni ix, Ni tm, Ni kd, .slice A10 d.length c11])] ?_
     refine gds 16 (st_buildS (e := 64) (zv := .agg #[.int .i64 0, .int .i64 0, .int .i64 0, .slice none 0 0]) (m := 4) (bytes := 48) rfl rfl rfl (by kernel_rfl) (by kernel_rfl) rfl (cs := [Ni ix, Ni tm, Ni kd, .slice A10 d.length c11]) (by kernel_rfl) rfl hH ?_)
     clear hH; intro b24 w25 hH
     replace hS9 := hH.sublist (slc (slk (slk sln)))
     refine ⟨hS9, ?_⟩
     refine gds 17 (st_appH (e := 64) (zv := .agg #[.int .i64 0, .int .i64 0, .int .i64 0, .slice none 0 0]) (m := 4) (bytes := 48) 3 rfl rfl rfl (by kernel_rfl) (by kernel_rfl) rfl (by decide) hH rfl rfl rfl (hH.row_reads 4 rfl) (by simp [Value.oneCell']) (by simp only [List.length_take]; unfold maxLen; omega) (by simp only [List.length_take]; omega) ?_)
     clear hH; intro v26 w27 hH
     replace hH := hH.row_eq 3 (l' := (es.take (ix - c0 - 1) ++ [((⟨ix, tm, kd, d⟩ : En), (Value.slice A10 d.length c11))]).length) (xs' := rowC enC (es.take (ix - c0 - 1) ++ [((⟨ix, tm, kd, d⟩ : En), (Value.slice A10 d.length c11))])) rfl (by rw [List.length_append]; rfl) (by rw [← rowC_app]; rfl)
     obtain ⟨A28, c29, rfl, hl30, hm31⟩ := hH.row_form 3 rfl
     replace hS9 := hH.sublist (slc (slk (slk sln)))
     refine ⟨hS9, ?_⟩
     refine gdo 2 [18,19] [(41, .slice A28 ((es.take (ix - c0 - 1) ++ [((⟨ix, tm, kd, d⟩ : En), (Value.slice A10 d.length c11))]).length) c29), (43, Pp g 5)] hS9 (PQ.th PQ.body) ?_
     refine gds 20 (st_storeK (v := .slice A28 ((es.take (ix - c0 - 1) ++ [((⟨ix, tm, kd, d⟩ : En), (Value.slice A10 d.length c11))]).length) c29) 0 rfl rfl rfl hH rfl rfl rfl (by kernel_rfl) rfl (by simp) ?_)
     clear hH; intro w32 hH
     replace hS9 := hH.sublist (slc (slk (slk sln)))
     refine ⟨hS9, ?_⟩
     refine gdn [] ?_
     refine sw_next ?_
     refine sw_sr ?_
     refine glo 1 [(4, .bool true)] ?_
     refine gl_dn rfl ?_
     refine sw_ret ?_
     refine ret1 rfl rfl  ?_
     replace hH := hH.fr3.fr4.fr3
     replace hH : Hp w w32 _ _ [_, _, _] := (hH.sublist (slk (slk (slk sln))))
     exact .inr ⟨_, _, rfl, by omega, hH.turned⟩
    ·
     refine st_buildS (e := 64) (zv := .agg #[.int .i64 0, .int .i64 0, .int .i64 0, .slice none 0 0]) (m := 4) (bytes := 48) rfl rfl rfl (by kernel_rfl) (by kernel_rfl) rfl (cs := [Ni ix, Ni tm, Ni kd, .slice A10 d.length c11]) (by kernel_rfl) rfl hH ?_
     clear hH; intro b33 w34 hH
     replace hS9 := hH.sublist (slc (slk (slk sln)))
     refine ⟨hS9, ?_⟩
     refine gdk [(24, Pp g 1), (37, .slice A9 ((ix - c0 - 1) - 0) (ce - 0)), (40, .slice (some ⟨b33, 0, none⟩) 1 1)] ?_
     refine gds 14 (st_call rfl rfl rfl (by kernel_rfl) rfl (EClone_ct _ (es.take (ix - c0 - 1)) _ (hR9.mono hH.zin) (enV_take hV _) (by rw [List.length_take]; omega)) ?_)
     rintro _ w37 ⟨v35, rfl, hF38⟩
     replace hH := hH.call hF38; clear hF38
     obtain ⟨A39, c40, rfl, hl41, hm42⟩ := hH.row_form 4 rfl
     replace hS9 := hH.sublist (slc (slk (slk sln)))
     refine ⟨hS9, ?_⟩
     refine gds 17 (st_appH (e := 64) (zv := .agg #[.int .i64 0, .int .i64 0, .int .i64 0, .slice none 0 0]) (m := 4) (bytes := 48) 4 rfl rfl rfl (by kernel_rfl) (by kernel_rfl) rfl (by decide) hH rfl rfl rfl (hH.row_reads 3 rfl) (by simp [Value.oneCell']) (by simp only [List.length_take]; unfold maxLen; omega) (by simp only [List.length_take]; omega) ?_)
     clear hH; intro v43 w44 hH
     replace hH := hH.row_eq 4 (l' := (es.take (ix - c0 - 1) ++ [((⟨ix, tm, kd, d⟩ : En), (Value.slice A10 d.length c11))]).length) (xs' := rowC enC (es.take (ix - c0 - 1) ++ [((⟨ix, tm, kd, d⟩ : En), (Value.slice A10 d.length c11))])) rfl (by rw [List.length_append]; rfl) (by rw [← rowC_app]; rfl)
     obtain ⟨A45, c46, rfl, hl47, hm48⟩ := hH.row_form 4 rfl
     replace hS9 := hH.sublist (slc (slk (slk sln)))
     refine ⟨hS9, ?_⟩
     refine gdo 2 [18,19] [(41, .slice A45 ((es.take (ix - c0 - 1) ++ [((⟨ix, tm, kd, d⟩ : En), (Value.slice A10 d.length c11))]).length) c46), (43, Pp g 5)] hS9 (PQ.th PQ.body) ?_
     refine gds 20 (st_storeK (v := .slice A45 ((es.take (ix - c0 - 1) ++ [((⟨ix, tm, kd, d⟩ : En), (Value.slice A10 d.length c11))]).length) c46) 0 rfl rfl rfl hH rfl rfl rfl (by kernel_rfl) rfl (by simp) ?_)
     clear hH; intro w49 hH
     replace hS9 := hH.sublist (slc (slk (slk sln)))
     refine ⟨hS9, ?_⟩
     refine gdn [] ?_
     refine sw_next ?_
     refine sw_sr ?_
     refine glo 1 [(4, .bool true)] ?_
     refine gl_dn rfl ?_
     refine sw_ret ?_
     refine ret1 rfl rfl  ?_
     replace hH := hH.fr3.fr5.fr3
     replace hH : Hp w w49 _ _ [_, _, _] := (hH.sublist (slk (slk (slk sln))))
     exact .inr ⟨_, _, rfl, by omega, hH.turned⟩
   ·
    refine st_buildS (e := 64) (zv := .agg #[.int .i64 0, .int .i64 0, .int .i64 0, .slice none 0 0]) (m := 4) (bytes := 48) rfl rfl rfl (by kernel_rfl) (by kernel_rfl) rfl (cs := [Ni ix, Ni tm, Ni kd, .slice A10 d.length c11]) (by kernel_rfl) rfl hH ?_
    clear hH; intro b50 w51 hH
    replace hS9 := hH.sublist (slc (slk (slk sln)))
    refine ⟨hS9, ?_⟩
    refine gdk [(24, Pp g 1), (28, .slice Ae es.length ce), (30, Ni ix), (33, Pp g 3), (40, .slice (some ⟨b50, 0, none⟩) 1 1)] ?_
    refine gds 10 (st_q rfl rfl rfl (rd_loadK 0 (by kernel_rfl) hH rfl rfl rfl) ?_)
    refine ⟨hS9, ?_⟩
    refine gdo 1 [11] [(24, Pp g 1), (28, .slice Ae es.length ce), (30, Ni ix), (34, Ni c0), (35, .int .i64 (IntKind.i64.wrap (((ix : Nat) : Int) - ((c0 : Nat) : Int)))), (40, .slice (some ⟨b50, 0, none⟩) 1 1)] hS9 (PQ.th PQ.body) ?_
    refine gd_cv 35 (Ni (ix - c0)) (cv_i64 (by omega)) rfl ?_
    refine gdo 1 [12] [(24, Pp g 1), (28, .slice Ae es.length ce), (35, Ni (ix - c0)), (36, .int .i64 (IntKind.i64.wrap (((ix - c0 : Nat) : Int) - 1))), (40, .slice (some ⟨b50, 0, none⟩) 1 1)] hS9 (PQ.th PQ.body) ?_
    refine gd_cv 36 (Ni (ix - c0 - 1)) (cv_i64 (by omega)) rfl ?_
    obtain ⟨A9, hc9, hv9⟩ := hE.cut (by decide) 0 (ix - c0 - 1) (by omega) (by omega)
    have hR9 := en_take (by omega) hv9
    refine gdq 13 rfl (fun w_ hS => (rd_cut (e := 64) (m := 4) (by kernel_rfl) (by kernel_rfl) rfl (.inl ⟨rfl, rfl⟩) (.inr ⟨_, _, rfl, rfl⟩) hc9)) hS9 (PQ.th PQ.body) ?_
    refine gdk [(24, Pp g 1), (37, .slice A9 ((ix - c0 - 1) - 0) (ce - 0)), (40, .slice (some ⟨b50, 0, none⟩) 1 1)] ?_
    refine gds 14 (st_call rfl rfl rfl (by kernel_rfl) rfl (EClone_ct _ (es.take (ix - c0 - 1)) _ (hR9.mono hH.zin) (enV_take hV _) (by rw [List.length_take]; omega)) ?_)
    rintro _ w54 ⟨v52, rfl, hF55⟩
    replace hH := hH.call hF55; clear hF55
    obtain ⟨A56, c57, rfl, hl58, hm59⟩ := hH.row_form 4 rfl
    replace hS9 := hH.sublist (slc (slk (slk sln)))
    refine ⟨hS9, ?_⟩
    refine gds 17 (st_appH (e := 64) (zv := .agg #[.int .i64 0, .int .i64 0, .int .i64 0, .slice none 0 0]) (m := 4) (bytes := 48) 4 rfl rfl rfl (by kernel_rfl) (by kernel_rfl) rfl (by decide) hH rfl rfl rfl (hH.row_reads 3 rfl) (by simp [Value.oneCell']) (by simp only [List.length_take]; unfold maxLen; omega) (by simp only [List.length_take]; omega) ?_)
    clear hH; intro v60 w61 hH
    replace hH := hH.row_eq 4 (l' := (es.take (ix - c0 - 1) ++ [((⟨ix, tm, kd, d⟩ : En), (Value.slice A10 d.length c11))]).length) (xs' := rowC enC (es.take (ix - c0 - 1) ++ [((⟨ix, tm, kd, d⟩ : En), (Value.slice A10 d.length c11))])) rfl (by rw [List.length_append]; rfl) (by rw [← rowC_app]; rfl)
    obtain ⟨A62, c63, rfl, hl64, hm65⟩ := hH.row_form 4 rfl
    replace hS9 := hH.sublist (slc (slk (slk sln)))
    refine ⟨hS9, ?_⟩
    refine gdo 2 [18,19] [(41, .slice A62 ((es.take (ix - c0 - 1) ++ [((⟨ix, tm, kd, d⟩ : En), (Value.slice A10 d.length c11))]).length) c63), (43, Pp g 5)] hS9 (PQ.th PQ.body) ?_
    refine gds 20 (st_storeK (v := .slice A62 ((es.take (ix - c0 - 1) ++ [((⟨ix, tm, kd, d⟩ : En), (Value.slice A10 d.length c11))]).length) c63) 0 rfl rfl rfl hH rfl rfl rfl (by kernel_rfl) rfl (by simp) ?_)
    clear hH; intro w66 hH
    replace hS9 := hH.sublist (slc (slk (slk sln)))
    refine ⟨hS9, ?_⟩
    refine gdn [] ?_
    refine sw_next ?_
    refine sw_sr ?_
    refine glo 1 [(4, .bool true)] ?_
    refine gl_dn rfl ?_
    refine sw_ret ?_
    refine ret1 rfl rfl  ?_
    replace hH := hH.fr3.fr5.fr3
    replace hH : Hp w w66 _ _ [_, _, _] := (hH.sublist (slk (slk (slk sln))))
    exact .inr ⟨_, _, rfl, by omega, hH.turned⟩
  ·
   refine st_q rfl rfl rfl (rd_loadK 0 (by kernel_rfl) hH rfl rfl rfl) ?_
   refine ⟨hS9, ?_⟩
   refine gdk [(24, Pp g 1), (27, Pp g 5), (30, Ni ix), (34, Ni c0), (39, .agg #[Ni ix, Ni tm, Ni kd, .slice A10 d.length c11])] ?_
   refine gdo 1 [11] [(24, Pp g 1), (27, Pp g 5), (30, Ni ix), (34, Ni c0), (35, .int .i64 (IntKind.i64.wrap (((ix : Nat) : Int) - ((c0 : Nat) : Int)))), (39, .agg #[Ni ix, Ni tm, Ni kd, .slice A10 d.length c11])] hS9 (PQ.th PQ.body) ?_
   refine gd_cv 35 (Ni (ix - c0)) (cv_i64 (by omega)) rfl ?_
   refine gdo 1 [12] [(24, Pp g 1), (27, Pp g 5), (35, Ni (ix - c0)), (36, .int .i64 (IntKind.i64.wrap (((ix - c0 : Nat) : Int) - 1))), (39, .agg #[Ni ix, Ni tm, Ni kd, .slice A10 d.length c11])] hS9 (PQ.th PQ.body) ?_
   refine gd_cv 36 (Ni (ix - c0 - 1)) (cv_i64 (by omega)) rfl ?_
   refine gd_st2 4 16 (by kernel_rfl) ?_ ?_
   ·
    refine st_q rfl rfl rfl (rd_loadK 0 (by kernel_rfl) hH rfl rfl rfl) ?_
    refine ⟨hS9, ?_⟩
    refine gdk [(24, Pp g 1), (28, .slice Ae es.length ce), (36, Ni (ix - c0 - 1)), (39, .agg #[Ni ix, Ni tm, Ni kd, .slice A10 d.length c11])] ?_
    obtain ⟨A9, hc9, hv9⟩ := hE.cut (by decide) 0 (ix - c0 - 1) (by omega) (by omega)
    have hR9 := en_take (by omega) hv9
    refine gdq 13 rfl (fun w_ hS => (rd_cut (e := 64) (m := 4) (by kernel_rfl) (by kernel_rfl) rfl (.inl ⟨rfl, rfl⟩) (.inr ⟨_, _, rfl, rfl⟩) hc9)) hS9 (PQ.th PQ.body) ?_
    refine gdk [(24, Pp g 1), (37, .slice A9 ((ix - c0 - 1) - 0) (ce - 0)), (39, .agg #[Ni ix, Ni tm, Ni kd, .slice A10 d.length c11])] ?_
    refine gd_st2 14 16 (by kernel_rfl) ?_ ?_
    ·
     refine st_call rfl rfl rfl (by kernel_rfl) rfl (EClone_ct _ (es.take (ix - c0 - 1)) _ (hR9.mono hH.zin) (enV_take hV _) (by rw [List.length_take]; omega)) ?_
     rintro _ w69 ⟨v67, rfl, hF70⟩
     replace hH := hH.call hF70; clear hF70
     obtain ⟨A71, c72, rfl, hl73, hm74⟩ := hH.row_form 3 rfl
     replace hS9 := hH.sublist (slc (slk (slk sln)))
     refine ⟨hS9, ?_⟩
     refine gdk [(24, Pp g 1), (38, .slice A71 ((es.take (ix - c0 - 1)).length) c72), (39, .agg #[Ni ix, Ni tm, Ni kd, .slice A10 d.length c11])] ?_
     refine gds 16 (st_buildS (e := 64) (zv := .agg #[.int .i64 0, .int .i64 0, .int .i64 0, .slice none 0 0]) (m := 4) (bytes := 48) rfl rfl rfl (by kernel_rfl) (by kernel_rfl) rfl (cs := [Ni ix, Ni tm, Ni kd, .slice A10 d.length c11]) (by kernel_rfl) rfl hH ?_)
     clear hH; intro b75 w76 hH
     replace hS9 := hH.sublist (slc (slk (slk sln)))
     refine ⟨hS9, ?_⟩
     refine gds 17 (st_appH (e := 64) (zv := .agg #[.int .i64 0, .int .i64 0, .int .i64 0, .slice none 0 0]) (m := 4) (bytes := 48) 3 rfl rfl rfl (by kernel_rfl) (by kernel_rfl) rfl (by decide) hH rfl rfl rfl (hH.row_reads 4 rfl) (by simp [Value.oneCell']) (by simp only [List.length_take]; unfold maxLen; omega) (by simp only [List.length_take]; omega) ?_)
     clear hH; intro v77 w78 hH
     replace hH := hH.row_eq 3 (l' := (es.take (ix - c0 - 1) ++ [((⟨ix, tm, kd, d⟩ : En), (Value.slice A10 d.length c11))]).length) (xs' := rowC enC (es.take (ix - c0 - 1) ++ [((⟨ix, tm, kd, d⟩ : En), (Value.slice A10 d.length c11))])) rfl (by rw [List.length_append]; rfl) (by rw [← rowC_app]; rfl)
     obtain ⟨A79, c80, rfl, hl81, hm82⟩ := hH.row_form 3 rfl
     replace hS9 := hH.sublist (slc (slk (slk sln)))
     refine ⟨hS9, ?_⟩
     refine gdo 2 [18,19] [(41, .slice A79 ((es.take (ix - c0 - 1) ++ [((⟨ix, tm, kd, d⟩ : En), (Value.slice A10 d.length c11))]).length) c80), (43, Pp g 5)] hS9 (PQ.th PQ.body) ?_
     refine gds 20 (st_storeK (v := .slice A79 ((es.take (ix - c0 - 1) ++ [((⟨ix, tm, kd, d⟩ : En), (Value.slice A10 d.length c11))]).length) c80) 0 rfl rfl rfl hH rfl rfl rfl (by kernel_rfl) rfl (by simp) ?_)
     clear hH; intro w83 hH
     replace hS9 := hH.sublist (slc (slk (slk sln)))
     refine ⟨hS9, ?_⟩
     refine gdn [] ?_
     refine sw_next ?_
     refine sw_sr ?_
     refine glo 1 [(4, .bool true)] ?_
     refine gl_dn rfl ?_
     refine sw_ret ?_
     refine ret1 rfl rfl  ?_
     replace hH := hH.fr3.fr4.fr3
     replace hH : Hp w w83 _ _ [_, _, _] := (hH.sublist (slk (slk (slk sln))))
     exact .inr ⟨_, _, rfl, by omega, hH.turned⟩
    ·
     refine st_buildS (e := 64) (zv := .agg #[.int .i64 0, .int .i64 0, .int .i64 0, .slice none 0 0]) (m := 4) (bytes := 48) rfl rfl rfl (by kernel_rfl) (by kernel_rfl) rfl (cs := [Ni ix, Ni tm, Ni kd, .slice A10 d.length c11]) (by kernel_rfl) rfl hH ?_
     clear hH; intro b84 w85 hH
     replace hS9 := hH.sublist (slc (slk (slk sln)))
     refine ⟨hS9, ?_⟩
     refine gdk [(24, Pp g 1), (37, .slice A9 ((ix - c0 - 1) - 0) (ce - 0)), (40, .slice (some ⟨b84, 0, none⟩) 1 1)] ?_
     refine gds 14 (st_call rfl rfl rfl (by kernel_rfl) rfl (EClone_ct _ (es.take (ix - c0 - 1)) _ (hR9.mono hH.zin) (enV_take hV _) (by rw [List.length_take]; omega)) ?_)
     rintro _ w88 ⟨v86, rfl, hF89⟩
     replace hH := hH.call hF89; clear hF89
     obtain ⟨A90, c91, rfl, hl92, hm93⟩ := hH.row_form 4 rfl
     replace hS9 := hH.sublist (slc (slk (slk sln)))
     refine ⟨hS9, ?_⟩
     refine gds 17 (st_appH (e := 64) (zv := .agg #[.int .i64 0, .int .i64 0, .int .i64 0, .slice none 0 0]) (m := 4) (bytes := 48) 4 rfl rfl rfl (by kernel_rfl) (by kernel_rfl) rfl (by decide) hH rfl rfl rfl (hH.row_reads 3 rfl) (by simp [Value.oneCell']) (by simp only [List.length_take]; unfold maxLen; omega) (by simp only [List.length_take]; omega) ?_)
     clear hH; intro v94 w95 hH
     replace hH := hH.row_eq 4 (l' := (es.take (ix - c0 - 1) ++ [((⟨ix, tm, kd, d⟩ : En), (Value.slice A10 d.length c11))]).length) (xs' := rowC enC (es.take (ix - c0 - 1) ++ [((⟨ix, tm, kd, d⟩ : En), (Value.slice A10 d.length c11))])) rfl (by rw [List.length_append]; rfl) (by rw [← rowC_app]; rfl)
     obtain ⟨A96, c97, rfl, hl98, hm99⟩ := hH.row_form 4 rfl
     replace hS9 := hH.sublist (slc (slk (slk sln)))
     refine ⟨hS9, ?_⟩
     refine gdo 2 [18,19] [(41, .slice A96 ((es.take (ix - c0 - 1) ++ [((⟨ix, tm, kd, d⟩ : En), (Value.slice A10 d.length c11))]).length) c97), (43, Pp g 5)] hS9 (PQ.th PQ.body) ?_
     refine gds 20 (st_storeK (v := .slice A96 ((es.take (ix - c0 - 1) ++ [((⟨ix, tm, kd, d⟩ : En), (Value.slice A10 d.length c11))]).length) c97) 0 rfl rfl rfl hH rfl rfl rfl (by kernel_rfl) rfl (by simp) ?_)
     clear hH; intro w100 hH
     replace hS9 := hH.sublist (slc (slk (slk sln)))
     refine ⟨hS9, ?_⟩
     refine gdn [] ?_
     refine sw_next ?_
     refine sw_sr ?_
     refine glo 1 [(4, .bool true)] ?_
     refine gl_dn rfl ?_
     refine sw_ret ?_
     refine ret1 rfl rfl  ?_
     replace hH := hH.fr3.fr5.fr3
     replace hH : Hp w w100 _ _ [_, _, _] := (hH.sublist (slk (slk (slk sln))))
     exact .inr ⟨_, _, rfl, by omega, hH.turned⟩
   ·
    refine st_buildS (e := 64) (zv := .agg #[.int .i64 0, .int .i64 0, .int .i64 0, .slice none 0 0]) (m := 4) (bytes := 48) rfl rfl rfl (by kernel_rfl) (by kernel_rfl) rfl (cs := [Ni ix, Ni tm, Ni kd, .slice A10 d.length c11]) (by kernel_rfl) rfl hH ?_
    clear hH; intro b101 w102 hH
    replace hS9 := hH.sublist (slc (slk (slk sln)))
    refine ⟨hS9, ?_⟩
    refine gdk [(24, Pp g 1), (27, Pp g 5), (36, Ni (ix - c0 - 1)), (40, .slice (some ⟨b101, 0, none⟩) 1 1)] ?_
    refine gds 4 (st_q rfl rfl rfl (rd_loadK 0 (by kernel_rfl) hH rfl rfl rfl) ?_)
    refine ⟨hS9, ?_⟩
    obtain ⟨A9, hc9, hv9⟩ := hE.cut (by decide) 0 (ix - c0 - 1) (by omega) (by omega)
    have hR9 := en_take (by omega) hv9
    refine gdq 13 rfl (fun w_ hS => (rd_cut (e := 64) (m := 4) (by kernel_rfl) (by kernel_rfl) rfl (.inl ⟨rfl, rfl⟩) (.inr ⟨_, _, rfl, rfl⟩) hc9)) hS9 (PQ.th PQ.body) ?_
    refine gdk [(24, Pp g 1), (37, .slice A9 ((ix - c0 - 1) - 0) (ce - 0)), (40, .slice (some ⟨b101, 0, none⟩) 1 1)] ?_
    refine gds 14 (st_call rfl rfl rfl (by kernel_rfl) rfl (EClone_ct _ (es.take (ix - c0 - 1)) _ (hR9.mono hH.zin) (enV_take hV _) (by rw [List.length_take]; omega)) ?_)
    rintro _ w105 ⟨v103, rfl, hF106⟩
    replace hH := hH.call hF106; clear hF106
    obtain ⟨A107, c108, rfl, hl109, hm110⟩ := hH.row_form 4 rfl
    replace hS9 := hH.sublist (slc (slk (slk sln)))
    refine ⟨hS9, ?_⟩
    refine gds 17 (st_appH (e := 64) (zv := .agg #[.int .i64 0, .int .i64 0, .int .i64 0, .slice none 0 0]) (m := 4) (bytes := 48) 4 rfl rfl rfl (by kernel_rfl) (by kernel_rfl) rfl (by decide) hH rfl rfl rfl (hH.row_reads 3 rfl) (by simp [Value.oneCell']) (by simp only [List.length_take]; unfold maxLen; omega) (by simp only [List.length_take]; omega) ?_)
    clear hH; intro v111 w112 hH
    replace hH := hH.row_eq 4 (l' := (es.take (ix - c0 - 1) ++ [((⟨ix, tm, kd, d⟩ : En), (Value.slice A10 d.length c11))]).length) (xs' := rowC enC (es.take (ix - c0 - 1) ++ [((⟨ix, tm, kd, d⟩ : En), (Value.slice A10 d.length c11))])) rfl (by rw [List.length_append]; rfl) (by rw [← rowC_app]; rfl)
    obtain ⟨A113, c114, rfl, hl115, hm116⟩ := hH.row_form 4 rfl
    replace hS9 := hH.sublist (slc (slk (slk sln)))
    refine ⟨hS9, ?_⟩
    refine gdo 2 [18,19] [(41, .slice A113 ((es.take (ix - c0 - 1) ++ [((⟨ix, tm, kd, d⟩ : En), (Value.slice A10 d.length c11))]).length) c114), (43, Pp g 5)] hS9 (PQ.th PQ.body) ?_
    refine gds 20 (st_storeK (v := .slice A113 ((es.take (ix - c0 - 1) ++ [((⟨ix, tm, kd, d⟩ : En), (Value.slice A10 d.length c11))]).length) c114) 0 rfl rfl rfl hH rfl rfl rfl (by kernel_rfl) rfl (by simp) ?_)
    clear hH; intro w117 hH
    replace hS9 := hH.sublist (slc (slk (slk sln)))
    refine ⟨hS9, ?_⟩
    refine gdn [] ?_
    refine sw_next ?_
    refine sw_sr ?_
    refine glo 1 [(4, .bool true)] ?_
    refine gl_dn rfl ?_
    refine sw_ret ?_
    refine ret1 rfl rfl  ?_
    replace hH := hH.fr3.fr5.fr3
    replace hH : Hp w w117 _ _ [_, _, _] := (hH.sublist (slk (slk (slk sln))))
    exact .inr ⟨_, _, rfl, by omega, hH.turned⟩
  ·
   refine st_buildS (e := 64) (zv := .agg #[.int .i64 0, .int .i64 0, .int .i64 0, .slice none 0 0]) (m := 4) (bytes := 48) rfl rfl rfl (by kernel_rfl) (by kernel_rfl) rfl (cs := [Ni ix, Ni tm, Ni kd, .slice A10 d.length c11]) (by kernel_rfl) rfl hH ?_
   clear hH; intro b118 w119 hH
   replace hS9 := hH.sublist (slc (slk (slk sln)))
   refine ⟨hS9, ?_⟩
   refine gdk [(24, Pp g 1), (27, Pp g 5), (30, Ni ix), (33, Pp g 3), (40, .slice (some ⟨b118, 0, none⟩) 1 1)] ?_
   refine gd_st2 4 10 (by kernel_rfl) ?_ ?_
   ·
    refine st_q rfl rfl rfl (rd_loadK 0 (by kernel_rfl) hH rfl rfl rfl) ?_
    refine ⟨hS9, ?_⟩
    refine gdk [(24, Pp g 1), (28, .slice Ae es.length ce), (30, Ni ix), (33, Pp g 3), (40, .slice (some ⟨b118, 0, none⟩) 1 1)] ?_
    refine gds 10 (st_q rfl rfl rfl (rd_loadK 0 (by kernel_rfl) hH rfl rfl rfl) ?_)
    refine ⟨hS9, ?_⟩
    refine gdo 1 [11] [(24, Pp g 1), (28, .slice Ae es.length ce), (30, Ni ix), (34, Ni c0), (35, .int .i64 (IntKind.i64.wrap (((ix : Nat) : Int) - ((c0 : Nat) : Int)))), (40, .slice (some ⟨b118, 0, none⟩) 1 1)] hS9 (PQ.th PQ.body) ?_
    refine gd_cv 35 (Ni (ix - c0)) (cv_i64 (by omega)) rfl ?_
    refine gdo 1 [12] [(24, Pp g 1), (28, .slice Ae es.length ce), (35, Ni (ix - c0)), (36, .int .i64 (IntKind.i64.wrap (((ix - c0 : Nat) : Int) - 1))), (40, .slice (some ⟨b118, 0, none⟩) 1 1)] hS9 (PQ.th PQ.body) ?_
    refine gd_cv 36 (Ni (ix - c0 - 1)) (cv_i64 (by omega)) rfl ?_
    obtain ⟨A9, hc9, hv9⟩ := hE.cut (by decide) 0 (ix - c0 - 1) (by omega) (by omega)
    have hR9 := en_take (by omega) hv9
    refine gdq 13 rfl (fun w_ hS => (rd_cut (e := 64) (m := 4) (by kernel_rfl) (by kernel_rfl) rfl (.inl ⟨rfl, rfl⟩) (.inr ⟨_, _, rfl, rfl⟩) hc9)) hS9 (PQ.th PQ.body) ?_
    refine gdk [(24, Pp g 1), (37, .slice A9 ((ix - c0 - 1) - 0) (ce - 0)), (40, .slice (some ⟨b118, 0, none⟩) 1 1)] ?_
    refine gds 14 (st_call rfl rfl rfl (by kernel_rfl) rfl (EClone_ct _ (es.take (ix - c0 - 1)) _ (hR9.mono hH.zin) (enV_take hV _) (by rw [List.length_take]; omega)) ?_)
    rintro _ w122 ⟨v120, rfl, hF123⟩
    replace hH := hH.call hF123; clear hF123
    obtain ⟨A124, c125, rfl, hl126, hm127⟩ := hH.row_form 4 rfl
    replace hS9 := hH.sublist (slc (slk (slk sln)))
    refine ⟨hS9, ?_⟩
    refine gds 17 (st_appH (e := 64) (zv := .agg #[.int .i64 0, .int .i64 0, .int .i64 0, .slice none 0 0]) (m := 4) (bytes := 48) 4 rfl rfl rfl (by kernel_rfl) (by kernel_rfl) rfl (by decide) hH rfl rfl rfl (hH.row_reads 3 rfl) (by simp [Value.oneCell']) (by simp only [List.length_take]; unfold maxLen; omega) (by simp only [List.length_take]; omega) ?_)
    clear hH; intro v128 w129 hH
    replace hH := hH.row_eq 4 (l' := (es.take (ix - c0 - 1) ++ [((⟨ix, tm, kd, d⟩ : En), (Value.slice A10 d.length c11))]).length) (xs' := rowC enC (es.take (ix - c0 - 1) ++ [((⟨ix, tm, kd, d⟩ : En), (Value.slice A10 d.length c11))])) rfl (by rw [List.length_append]; rfl) (by rw [← rowC_app]; rfl)
    obtain ⟨A130, c131, rfl, hl132, hm133⟩ := hH.row_form 4 rfl
    replace hS9 := hH.sublist (slc (slk (slk sln)))
    refine ⟨hS9, ?_⟩
    refine gdo 2 [18,19] [(41, .slice A130 ((es.take (ix - c0 - 1) ++ [((⟨ix, tm, kd, d⟩ : En), (Value.slice A10 d.length c11))]).length) c131), (43, Pp g 5)] hS9 (PQ.th PQ.body) ?_
    refine gds 20 (st_storeK (v := .slice A130 ((es.take (ix - c0 - 1) ++ [((⟨ix, tm, kd, d⟩ : En), (Value.slice A10 d.length c11))]).length) c131) 0 rfl rfl rfl hH rfl rfl rfl (by kernel_rfl) rfl (by simp) ?_)
    clear hH; intro w134 hH
    replace hS9 := hH.sublist (slc (slk (slk sln)))
    refine ⟨hS9, ?_⟩
    refine gdn [] ?_
    refine sw_next ?_
    refine sw_sr ?_
    refine glo 1 [(4, .bool true)] ?_
    refine gl_dn rfl ?_
    refine sw_ret ?_
    refine ret1 rfl rfl  ?_
    replace hH := hH.fr3.fr5.fr3
    replace hH : Hp w w134 _ _ [_, _, _] := (hH.sublist (slk (slk (slk sln))))
    exact .inr ⟨_, _, rfl, by omega, hH.turned⟩
   ·
    refine st_q rfl rfl rfl (rd_loadK 0 (by kernel_rfl) hH rfl rfl rfl) ?_
    refine ⟨hS9, ?_⟩
    refine gdk [(24, Pp g 1), (27, Pp g 5), (30, Ni ix), (34, Ni c0), (40, .slice (some ⟨b118, 0, none⟩) 1 1)] ?_
    refine gdo 1 [11] [(24, Pp g 1), (27, Pp g 5), (30, Ni ix), (34, Ni c0), (35, .int .i64 (IntKind.i64.wrap (((ix : Nat) : Int) - ((c0 : Nat) : Int)))), (40, .slice (some ⟨b118, 0, none⟩) 1 1)] hS9 (PQ.th PQ.body) ?_
    refine gd_cv 35 (Ni (ix - c0)) (cv_i64 (by omega)) rfl ?_
    refine gdo 1 [12] [(24, Pp g 1), (27, Pp g 5), (35, Ni (ix - c0)), (36, .int .i64 (IntKind.i64.wrap (((ix - c0 : Nat) : Int) - 1))), (40, .slice (some ⟨b118, 0, none⟩) 1 1)] hS9 (PQ.th PQ.body) ?_
    refine gd_cv 36 (Ni (ix - c0 - 1)) (cv_i64 (by omega)) rfl ?_
    refine gds 4 (st_q rfl rfl rfl (rd_loadK 0 (by kernel_rfl) hH rfl rfl rfl) ?_)
    refine ⟨hS9, ?_⟩
    obtain ⟨A9, hc9, hv9⟩ := hE.cut (by decide) 0 (ix - c0 - 1) (by omega) (by omega)
    have hR9 := en_take (by omega) hv9
    refine gdq 13 rfl (fun w_ hS => (rd_cut (e := 64) (m := 4) (by kernel_rfl) (by kernel_rfl) rfl (.inl ⟨rfl, rfl⟩) (.inr ⟨_, _, rfl, rfl⟩) hc9)) hS9 (PQ.th PQ.body) ?_
    refine gdk [(24, Pp g 1), (37, .slice A9 ((ix - c0 - 1) - 0) (ce - 0)), (40, .slice (some ⟨b118, 0, none⟩) 1 1)] ?_
    refine gds 14 (st_call rfl rfl rfl (by kernel_rfl) rfl (EClone_ct _ (es.take (ix - c0 - 1)) _ (hR9.mono hH.zin) (enV_take hV _) (by rw [List.length_take]; omega)) ?_)
    rintro _ w137 ⟨v135, rfl, hF138⟩
    replace hH := hH.call hF138; clear hF138
    obtain ⟨A139, c140, rfl, hl141, hm142⟩ := hH.row_form 4 rfl
    replace hS9 := hH.sublist (slc (slk (slk sln)))
    refine ⟨hS9, ?_⟩
    refine gds 17 (st_appH (e := 64) (zv := .agg #[.int .i64 0, .int .i64 0, .int .i64 0, .slice none 0 0]) (m := 4) (bytes := 48) 4 rfl rfl rfl (by kernel_rfl) (by kernel_rfl) rfl (by decide) hH rfl rfl rfl (hH.row_reads 3 rfl) (by simp [Value.oneCell']) (by simp only [List.length_take]; unfold maxLen; omega) (by simp only [List.length_take]; omega) ?_)
    clear hH; intro v143 w144 hH
    replace hH := hH.row_eq 4 (l' := (es.take (ix - c0 - 1) ++ [((⟨ix, tm, kd, d⟩ : En), (Value.slice A10 d.length c11))]).length) (xs' := rowC enC (es.take (ix - c0 - 1) ++ [((⟨ix, tm, kd, d⟩ : En), (Value.slice A10 d.length c11))])) rfl (by rw [List.length_append]; rfl) (by rw [← rowC_app]; rfl)
    obtain ⟨A145, c146, rfl, hl147, hm148⟩ := hH.row_form 4 rfl
    replace hS9 := hH.sublist (slc (slk (slk sln)))
    refine ⟨hS9, ?_⟩
    refine gdo 2 [18,19] [(41, .slice A145 ((es.take (ix - c0 - 1) ++ [((⟨ix, tm, kd, d⟩ : En), (Value.slice A10 d.length c11))]).length) c146), (43, Pp g 5)] hS9 (PQ.th PQ.body) ?_
    refine gds 20 (st_storeK (v := .slice A145 ((es.take (ix - c0 - 1) ++ [((⟨ix, tm, kd, d⟩ : En), (Value.slice A10 d.length c11))]).length) c146) 0 rfl rfl rfl hH rfl rfl rfl (by kernel_rfl) rfl (by simp) ?_)
    clear hH; intro w149 hH
    replace hS9 := hH.sublist (slc (slk (slk sln)))
    refine ⟨hS9, ?_⟩
    refine gdn [] ?_
    refine sw_next ?_
    refine sw_sr ?_
    refine glo 1 [(4, .bool true)] ?_
    refine gl_dn rfl ?_
    refine sw_ret ?_
    refine ret1 rfl rfl  ?_
    replace hH := hH.fr3.fr5.fr3
    replace hH : Hp w w149 _ _ [_, _, _] := (hH.sublist (slk (slk (slk sln))))
    exact .inr ⟨_, _, rfl, by omega, hH.turned⟩
end Go.Proofs.YtajapgjemefoiaaGreatDoor
/- Layer 19, the document's Same: are two rows of entries alike? What it answers. -/
set_option maxRecDepth 100000
set_option maxHeartbeats 1000000
set_option linter.unusedVariables false
set_option linter.unusedSimpArgs false
namespace Go.Proofs.YtajapgjemefoiaaGreatDoor
open Go.RowKit Go.SW
abbrev EI := List (EA × Value)
def eiC (q : EA × Value) : List Value := [.int .i64 q.1.ix, .int .i64 q.1.tm, .int .i64 q.1.kd, q.2]
theorem eiC_len (q : EA × Value) : (eiC q).length = 4 := rfl
theorem ea_ext {f g : EA} (h1 : f.ix = g.ix) (h2 : f.tm = g.tm) (h3 : f.kd = g.kd) (h4 : f.d = g.d) : f = g := by
  cases f; cases g; simp_all
theorem ea_eq {qs rs : EI} (hl : qs.length = rs.length) (h : ∀ j : Nat, j < qs.length → ∀ q r, qs[j]? = some q → rs[j]? = some r → q.1 = r.1) : qs.map (·.1) = rs.map (·.1) := by
  apply List.ext_getElem?
  intro j
  rw [List.getElem?_map, List.getElem?_map]
  by_cases hj : j < qs.length
  · rw [List.getElem?_eq_getElem hj, List.getElem?_eq_getElem (show j < rs.length by omega)]
    simp only [Option.map_some, Option.some.injEq]
    exact h j hj _ _ (List.getElem?_eq_getElem hj) (List.getElem?_eq_getElem (by omega))
  · rw [List.getElem?_eq_none (by omega), List.getElem?_eq_none (by omega)]
theorem ea_ne {qs rs : EI} {j : Nat} {q r : EA × Value} (hq : qs[j]? = some q) (hr : rs[j]? = some r) (h : q.1 ≠ r.1) : ¬ qs.map (·.1) = rs.map (·.1) := by
  intro e
  have := congrArg (fun l => l[j]?) e
  simp only [List.getElem?_map, hq, hr, Option.map_some, Option.some.injEq] at this
  exact h this
theorem ea_next {qs rs : EI} {i : Nat} (h : ∀ j : Nat, j < i → ∀ q r, qs[j]? = some q → rs[j]? = some r → q.1 = r.1) {q r : EA × Value} (hq : qs[i]? = some q) (hr : rs[i]? = some r) (e : q.1 = r.1) : ∀ j : Nat, j < i + 1 → ∀ q r, qs[j]? = some q → rs[j]? = some r → q.1 = r.1 := by
  intro j hj q' r' h1 h2
  rcases Nat.lt_succ_iff_lt_or_eq.1 hj with h3 | rfl
  · exact h j h3 q' r' h1 h2
  · rw [hq] at h1; rw [hr] at h2; cases h1; cases h2; exact e

theorem Same19_ct (va vb : Value) (qs rs : EI) (w : World) (ha : Row w.cell? va 4 qs.length (rowC eiC qs)) (hb : Row w.cell? vb 4 rs.length (rowC eiC rs)) (hqa : ∀ q ∈ qs, RB w.cell? q.2 q.1.d) (hqb : ∀ q ∈ rs, RB w.cell? q.2 q.1.d) :
    Fun Tryz.prog 37 [va, vb] w fun v w' => ∃ b, v = .bool b ∧ (b = true ↔ qs.map (·.1) = rs.map (·.1)) ∧ Fresh w w' [] := by
 obtain ⟨Aa, ca, rfl, ha1, ha2⟩ := ha.form
 obtain ⟨Ab2, cb2, rfl, hb1, hb2⟩ := hb.form
 have ha3 := ha2
 simp only [maxLen] at ha3
 refine fun_of_sw Tryz.func37 rfl 69 rfl rfl ?_
 have hH := Hp.start w
 refine sw_sr ?_
 refine glo 1 [(0, .slice Aa qs.length ca), (1, .slice Ab2 rs.length cb2)] ?_
 refine gl_dn rfl ?_
 refine sw_seq ?_
 refine sw_sr ?_
 refine glo 1 [(0, .slice Aa qs.length ca), (1, .slice Ab2 rs.length cb2), (6, .slice Aa qs.length ca)] ?_
 refine gl_q rfl rfl rfl (rd_len (e := 64) (by kernel_rfl) rfl) ?_
 refine glo 1 [(0, .slice Aa qs.length ca), (1, .slice Ab2 rs.length cb2), (7, Ni qs.length), (8, .slice Ab2 rs.length cb2)] ?_
 refine gl_q rfl rfl rfl (rd_len (e := 64) (by kernel_rfl) rfl) ?_
 refine glo 1 [(0, .slice Aa qs.length ca), (1, .slice Ab2 rs.length cb2), (10, .bool (((qs.length : Nat) : Int) != ((rs.length : Nat) : Int)))] ?_
 refine gl_dn rfl ?_
 refine sw_cond rfl rfl (fun hc1 => ?_) (fun hc1 => ?_)
 ·
  try simp only [bne_iff_ne, ne_eq] at hc1
  refine sw_sr ?_
  refine glo 1 [(4, .bool false)] ?_
  refine gl_dn rfl ?_
  refine sw_ret ?_
  refine thR ?_
  refine ret1 rfl rfl  ?_
  first | exact ⟨false, rfl, ⟨fun h => Bool.noConfusion h, fun h => absurd h (ea_ne hq hr (fun e9 => hne (by rw [show q = r from e9])))⟩, (hH.sublist sln).fresh⟩ | exact ⟨true, rfl, ⟨fun _ => ea_eq hlen (fun j hj => hall j (by omega)), fun _ => rfl⟩, hH.fresh⟩ | exact ⟨false, rfl, ⟨fun h => Bool.noConfusion h, fun h => absurd (congrArg List.length h) (by simp; omega)⟩, hH.fresh⟩
 try simp only [bne_eq_false_iff_eq] at hc1
 have hlen : qs.length = rs.length := by omega
 refine sw_skip ?_
 refine sw_next ?_
 refine sw_seq ?_
 refine sw_sr ?_
 refine glo 1 [(0, .slice Aa qs.length ca), (1, .slice Ab2 rs.length cb2), (5, .int .i64 0)] ?_
 refine gl_dn rfl ?_
 refine sw_block ?_
 refine sw_loop (γ := Nat) (fun i => [(0, .slice Aa qs.length ca), (1, .slice Ab2 rs.length cb2), (5, Ni i)]) (fun i w_ => (i ≤ qs.length) ∧ (∀ j : Nat, j < i → ∀ q r, qs[j]? = some q → rs[j]? = some r → q.1 = r.1) ∧ Hp w w_ (w.cell?) [] []) (fun i => qs.length - i) (0) (Sub.of_eq (by kernel_rfl)) ?_ ?_
 · exact ⟨by omega, fun j hj => absurd hj (by omega), hH⟩
 clear hH
 rintro i w1 ⟨hi, hall, hH⟩
 refine swk [(0, .slice Aa qs.length ca), (1, .slice Ab2 rs.length cb2), (5, Ni i)] ?_
 refine sw_seq ?_
 refine sw_sr ?_
 refine glo 2 [(0, .slice Aa qs.length ca), (1, .slice Ab2 rs.length cb2), (5, Ni i), (11, Ni i), (12, .slice Aa qs.length ca)] ?_
 refine gl_q rfl rfl rfl (rd_len (e := 64) (by kernel_rfl) rfl) ?_
 refine glo 1 [(0, .slice Aa qs.length ca), (1, .slice Ab2 rs.length cb2), (5, Ni i), (14, .bool (decide (((i : Nat) : Int) < ((qs.length : Nat) : Int))))] ?_
 refine gl_dn rfl ?_
 refine sw_cond rfl rfl (fun hc2 => ?_) (fun hc2 => ?_)
 ·
  try simp only [decide_eq_true_eq] at hc2
  refine sw_skip ?_
  refine sw_next ?_
  refine sw_seq ?_
  refine sw_block ?_
  refine sw_seq ?_
  obtain ⟨⟨q, uq⟩, hq⟩ : ∃ x, qs[i]? = some x := ⟨_, List.getElem?_eq_getElem (by omega)⟩
  have hbx : RB w.cell? uq q.d := hqa _ (List.mem_of_getElem? hq)
  obtain ⟨Ax, cx, rfl, hkx, hmx⟩ := hbx.row.form
  obtain ⟨⟨r, ur⟩, hr⟩ : ∃ x, rs[i]? = some x := ⟨_, List.getElem?_eq_getElem (by omega)⟩
  have hby : RB w.cell? ur r.d := hqb _ (List.mem_of_getElem? hr)
  obtain ⟨Ay, cy, rfl, hky, hmy⟩ := hby.row.form
  refine sw_draw (by kernel_rfl) (fun w_ => Hp w w_ (w.cell?) [] []) ?_
  replace hH := hH.drew
  generalize { w1 with drawn := w1.drawn + 1 } = w2 at hH ⊢
  have hS9 := hH.sublist sln
  obtain ⟨p3, hi5, hp4⟩ := ha.idx i (by omega) (by decide)
  refine gdo 2 [0,1] [(0, .slice Aa qs.length ca), (1, .slice Ab2 rs.length cb2), (5, Ni i), (17, .slice Aa qs.length ca), (18, Ni i)] hS9 (PQ.th (PQ.bk (PQ.th (PQ.th (PQ.bk (PQ.th PQ.body)))))) ?_
  refine gdq 2 rfl (fun w_ hS => (rd_idx (e := 64) (m := 4) (by kernel_rfl) (by kernel_rfl) rfl rfl hi5)) hS9 (PQ.th (PQ.bk (PQ.th (PQ.th (PQ.bk (PQ.th PQ.body)))))) ?_
  refine gdo 1 [3] [(0, .slice Aa qs.length ca), (1, .slice Ab2 rs.length cb2), (5, Ni i), (20, .pointer (some p3))] hS9 (PQ.th (PQ.bk (PQ.th (PQ.th (PQ.bk (PQ.th PQ.body)))))) ?_
  refine gdq 4 rfl (fun w_ hS => (rd_load (by kernel_rfl) rfl (hS.zin _ _ (hp4 0 _ (by decide) (rowC_at eiC_len hq 0 (by decide) rfl))))) hS9 (PQ.th (PQ.bk (PQ.th (PQ.th (PQ.bk (PQ.th PQ.body)))))) ?_
  obtain ⟨p6, hi8, hp7⟩ := hb.idx i (by omega) (by decide)
  refine gdo 2 [5,6] [(0, .slice Aa qs.length ca), (1, .slice Ab2 rs.length cb2), (5, Ni i), (21, .int .i64 q.ix), (22, .slice Ab2 rs.length cb2), (23, Ni i)] hS9 (PQ.th (PQ.bk (PQ.th (PQ.th (PQ.bk (PQ.th PQ.body)))))) ?_
  refine gdq 7 rfl (fun w_ hS => (rd_idx (e := 64) (m := 4) (by kernel_rfl) (by kernel_rfl) rfl rfl hi8)) hS9 (PQ.th (PQ.bk (PQ.th (PQ.th (PQ.bk (PQ.th PQ.body)))))) ?_
  refine gdo 1 [8] [(0, .slice Aa qs.length ca), (1, .slice Ab2 rs.length cb2), (5, Ni i), (21, .int .i64 q.ix), (25, .pointer (some p6))] hS9 (PQ.th (PQ.bk (PQ.th (PQ.th (PQ.bk (PQ.th PQ.body)))))) ?_
  refine gdq 9 rfl (fun w_ hS => (rd_load (by kernel_rfl) rfl (hS.zin _ _ (hp7 0 _ (by decide) (rowC_at eiC_len hr 0 (by decide) rfl))))) hS9 (PQ.th (PQ.bk (PQ.th (PQ.th (PQ.bk (PQ.th PQ.body)))))) ?_
  refine gdo 2 [10,11] [(0, .slice Aa qs.length ca), (1, .slice Ab2 rs.length cb2), (5, Ni i), (28, .bool ((q.ix : Int) != (r.ix : Int)))] hS9 (PQ.th (PQ.bk (PQ.th (PQ.th (PQ.bk (PQ.th PQ.body)))))) ?_
  refine gd_split 28 (b := (q.ix : Int) != (r.ix : Int)) rfl (fun hg3 => ?_) (fun hg3 => ?_)
  ·
   try simp only [bne_iff_ne, ne_eq] at hg3
   have hne := hg3
   refine gdo 40 [12,13,14,15,16,17,18,19,20,21,22,23,24,25,26,27,28,29,30,31,32,33,34,35,36,37,38,39,40,41,42,43,44,45,46,47,48,49,50,51] [(0, .slice Aa qs.length ca), (1, .slice Ab2 rs.length cb2), (5, Ni i), (68, .bool true)] hS9 (PQ.th (PQ.bk (PQ.th (PQ.th (PQ.bk (PQ.th PQ.body)))))) ?_
   refine gdn [(0, .slice Aa qs.length ca), (1, .slice Ab2 rs.length cb2), (5, Ni i), (68, .bool true)] ?_
   refine sw_next ?_
   refine sw_true rfl rfl ?_
   refine sw_sr ?_
   refine glo 1 [(4, .bool false)] ?_
   refine gl_dn rfl ?_
   refine sw_ret ?_
   refine bkR ?_
   refine thR ?_
   refine thR ?_
   refine bkR ?_
   refine thR ?_
   refine ret1 rfl rfl  ?_
   first | exact ⟨false, rfl, ⟨fun h => Bool.noConfusion h, fun h => absurd h (ea_ne hq hr (fun e9 => hne (by rw [show q = r from e9])))⟩, (hH.sublist sln).fresh⟩ | exact ⟨true, rfl, ⟨fun _ => ea_eq hlen (fun j hj => hall j (by omega)), fun _ => rfl⟩, hH.fresh⟩ | exact ⟨false, rfl, ⟨fun h => Bool.noConfusion h, fun h => absurd (congrArg List.length h) (by simp; omega)⟩, hH.fresh⟩
  ·
   try simp only [bne_eq_false_iff_eq] at hg3
   have hI1 := hg3
   obtain ⟨p9, hi11, hp10⟩ := ha.idx i (by omega) (by decide)
   refine gdo 2 [12,13] [(0, .slice Aa qs.length ca), (1, .slice Ab2 rs.length cb2), (5, Ni i), (28, .bool false), (29, .slice Aa qs.length ca), (30, Ni i)] hS9 (PQ.th (PQ.bk (PQ.th (PQ.th (PQ.bk (PQ.th PQ.body)))))) ?_
   refine gdq 14 rfl (fun w_ hS => (rd_idx (e := 64) (m := 4) (by kernel_rfl) (by kernel_rfl) rfl rfl hi11)) hS9 (PQ.th (PQ.bk (PQ.th (PQ.th (PQ.bk (PQ.th PQ.body)))))) ?_
   refine gdo 1 [15] [(0, .slice Aa qs.length ca), (1, .slice Ab2 rs.length cb2), (5, Ni i), (28, .bool false), (32, .pointer (some (p9.add 1)))] hS9 (PQ.th (PQ.bk (PQ.th (PQ.th (PQ.bk (PQ.th PQ.body)))))) ?_
   refine gdq 16 rfl (fun w_ hS => (rd_load (by kernel_rfl) rfl (hS.zin _ _ (hp10 1 _ (by decide) (rowC_at eiC_len hq 1 (by decide) rfl))))) hS9 (PQ.th (PQ.bk (PQ.th (PQ.th (PQ.bk (PQ.th PQ.body)))))) ?_
   obtain ⟨p12, hi14, hp13⟩ := hb.idx i (by omega) (by decide)
   refine gdo 2 [17,18] [(0, .slice Aa qs.length ca), (1, .slice Ab2 rs.length cb2), (5, Ni i), (28, .bool false), (33, .int .i64 q.tm), (34, .slice Ab2 rs.length cb2), (35, Ni i)] hS9 (PQ.th (PQ.bk (PQ.th (PQ.th (PQ.bk (PQ.th PQ.body)))))) ?_
   refine gdq 19 rfl (fun w_ hS => (rd_idx (e := 64) (m := 4) (by kernel_rfl) (by kernel_rfl) rfl rfl hi14)) hS9 (PQ.th (PQ.bk (PQ.th (PQ.th (PQ.bk (PQ.th PQ.body)))))) ?_
   refine gdo 1 [20] [(0, .slice Aa qs.length ca), (1, .slice Ab2 rs.length cb2), (5, Ni i), (28, .bool false), (33, .int .i64 q.tm), (37, .pointer (some (p12.add 1)))] hS9 (PQ.th (PQ.bk (PQ.th (PQ.th (PQ.bk (PQ.th PQ.body)))))) ?_
   refine gdq 21 rfl (fun w_ hS => (rd_load (by kernel_rfl) rfl (hS.zin _ _ (hp13 1 _ (by decide) (rowC_at eiC_len hr 1 (by decide) rfl))))) hS9 (PQ.th (PQ.bk (PQ.th (PQ.th (PQ.bk (PQ.th PQ.body)))))) ?_
   refine gdo 3 [22,23,24] [(0, .slice Aa qs.length ca), (1, .slice Ab2 rs.length cb2), (5, Ni i), (41, .bool ((q.tm : Int) != (r.tm : Int)))] hS9 (PQ.th (PQ.bk (PQ.th (PQ.th (PQ.bk (PQ.th PQ.body)))))) ?_
   refine gd_split 41 (b := (q.tm : Int) != (r.tm : Int)) rfl (fun hg5 => ?_) (fun hg5 => ?_)
   ·
    try simp only [bne_iff_ne, ne_eq] at hg5
    have hne := hg5
    refine gdo 27 [25,26,27,28,29,30,31,32,33,34,35,36,37,38,39,40,41,42,43,44,45,46,47,48,49,50,51] [(0, .slice Aa qs.length ca), (1, .slice Ab2 rs.length cb2), (5, Ni i), (68, .bool true)] hS9 (PQ.th (PQ.bk (PQ.th (PQ.th (PQ.bk (PQ.th PQ.body)))))) ?_
    refine gdn [(0, .slice Aa qs.length ca), (1, .slice Ab2 rs.length cb2), (5, Ni i), (68, .bool true)] ?_
    refine sw_next ?_
    refine sw_true rfl rfl ?_
    refine sw_sr ?_
    refine glo 1 [(4, .bool false)] ?_
    refine gl_dn rfl ?_
    refine sw_ret ?_
    refine bkR ?_
    refine thR ?_
    refine thR ?_
    refine bkR ?_
    refine thR ?_
    refine ret1 rfl rfl  ?_
    first | exact ⟨false, rfl, ⟨fun h => Bool.noConfusion h, fun h => absurd h (ea_ne hq hr (fun e9 => hne (by rw [show q = r from e9])))⟩, (hH.sublist sln).fresh⟩ | exact ⟨true, rfl, ⟨fun _ => ea_eq hlen (fun j hj => hall j (by omega)), fun _ => rfl⟩, hH.fresh⟩ | exact ⟨false, rfl, ⟨fun h => Bool.noConfusion h, fun h => absurd (congrArg List.length h) (by simp; omega)⟩, hH.fresh⟩
   ·
    try simp only [bne_eq_false_iff_eq] at hg5
    have hT1 := hg5
    obtain ⟨p15, hi17, hp16⟩ := ha.idx i (by omega) (by decide)
    refine gdo 2 [25,26] [(0, .slice Aa qs.length ca), (1, .slice Ab2 rs.length cb2), (5, Ni i), (41, .bool false), (42, .slice Aa qs.length ca), (43, Ni i)] hS9 (PQ.th (PQ.bk (PQ.th (PQ.th (PQ.bk (PQ.th PQ.body)))))) ?_
    refine gdq 27 rfl (fun w_ hS => (rd_idx (e := 64) (m := 4) (by kernel_rfl) (by kernel_rfl) rfl rfl hi17)) hS9 (PQ.th (PQ.bk (PQ.th (PQ.th (PQ.bk (PQ.th PQ.body)))))) ?_
    refine gdo 1 [28] [(0, .slice Aa qs.length ca), (1, .slice Ab2 rs.length cb2), (5, Ni i), (41, .bool false), (45, .pointer (some (p15.add 2)))] hS9 (PQ.th (PQ.bk (PQ.th (PQ.th (PQ.bk (PQ.th PQ.body)))))) ?_
    refine gdq 29 rfl (fun w_ hS => (rd_load (by kernel_rfl) rfl (hS.zin _ _ (hp16 2 _ (by decide) (rowC_at eiC_len hq 2 (by decide) rfl))))) hS9 (PQ.th (PQ.bk (PQ.th (PQ.th (PQ.bk (PQ.th PQ.body)))))) ?_
    obtain ⟨p18, hi20, hp19⟩ := hb.idx i (by omega) (by decide)
    refine gdo 2 [30,31] [(0, .slice Aa qs.length ca), (1, .slice Ab2 rs.length cb2), (5, Ni i), (41, .bool false), (46, .int .i64 q.kd), (47, .slice Ab2 rs.length cb2), (48, Ni i)] hS9 (PQ.th (PQ.bk (PQ.th (PQ.th (PQ.bk (PQ.th PQ.body)))))) ?_
    refine gdq 32 rfl (fun w_ hS => (rd_idx (e := 64) (m := 4) (by kernel_rfl) (by kernel_rfl) rfl rfl hi20)) hS9 (PQ.th (PQ.bk (PQ.th (PQ.th (PQ.bk (PQ.th PQ.body)))))) ?_
    refine gdo 1 [33] [(0, .slice Aa qs.length ca), (1, .slice Ab2 rs.length cb2), (5, Ni i), (41, .bool false), (46, .int .i64 q.kd), (50, .pointer (some (p18.add 2)))] hS9 (PQ.th (PQ.bk (PQ.th (PQ.th (PQ.bk (PQ.th PQ.body)))))) ?_
    refine gdq 34 rfl (fun w_ hS => (rd_load (by kernel_rfl) rfl (hS.zin _ _ (hp19 2 _ (by decide) (rowC_at eiC_len hr 2 (by decide) rfl))))) hS9 (PQ.th (PQ.bk (PQ.th (PQ.th (PQ.bk (PQ.th PQ.body)))))) ?_
    refine gdo 3 [35,36,37] [(0, .slice Aa qs.length ca), (1, .slice Ab2 rs.length cb2), (5, Ni i), (54, .bool ((q.kd : Int) != (r.kd : Int)))] hS9 (PQ.th (PQ.bk (PQ.th (PQ.th (PQ.bk (PQ.th PQ.body)))))) ?_
    refine gd_split 54 (b := (q.kd : Int) != (r.kd : Int)) rfl (fun hg7 => ?_) (fun hg7 => ?_)
    ·
     try simp only [bne_iff_ne, ne_eq] at hg7
     have hne := hg7
     refine gdo 14 [38,39,40,41,42,43,44,45,46,47,48,49,50,51] [(0, .slice Aa qs.length ca), (1, .slice Ab2 rs.length cb2), (5, Ni i), (68, .bool true)] hS9 (PQ.th (PQ.bk (PQ.th (PQ.th (PQ.bk (PQ.th PQ.body)))))) ?_
     refine gdn [(0, .slice Aa qs.length ca), (1, .slice Ab2 rs.length cb2), (5, Ni i), (68, .bool true)] ?_
     refine sw_next ?_
     refine sw_true rfl rfl ?_
     refine sw_sr ?_
     refine glo 1 [(4, .bool false)] ?_
     refine gl_dn rfl ?_
     refine sw_ret ?_
     refine bkR ?_
     refine thR ?_
     refine thR ?_
     refine bkR ?_
     refine thR ?_
     refine ret1 rfl rfl  ?_
     first | exact ⟨false, rfl, ⟨fun h => Bool.noConfusion h, fun h => absurd h (ea_ne hq hr (fun e9 => hne (by rw [show q = r from e9])))⟩, (hH.sublist sln).fresh⟩ | exact ⟨true, rfl, ⟨fun _ => ea_eq hlen (fun j hj => hall j (by omega)), fun _ => rfl⟩, hH.fresh⟩ | exact ⟨false, rfl, ⟨fun h => Bool.noConfusion h, fun h => absurd (congrArg List.length h) (by simp; omega)⟩, hH.fresh⟩
    ·
     try simp only [bne_eq_false_iff_eq] at hg7
     have hK1 := hg7
     obtain ⟨p21, hi23, hp22⟩ := ha.idx i (by omega) (by decide)
     refine gdo 2 [38,39] [(0, .slice Aa qs.length ca), (1, .slice Ab2 rs.length cb2), (5, Ni i), (54, .bool false), (55, .slice Aa qs.length ca), (56, Ni i)] hS9 (PQ.th (PQ.bk (PQ.th (PQ.th (PQ.bk (PQ.th PQ.body)))))) ?_
     refine gdq 40 rfl (fun w_ hS => (rd_idx (e := 64) (m := 4) (by kernel_rfl) (by kernel_rfl) rfl rfl hi23)) hS9 (PQ.th (PQ.bk (PQ.th (PQ.th (PQ.bk (PQ.th PQ.body)))))) ?_
     refine gdo 1 [41] [(0, .slice Aa qs.length ca), (1, .slice Ab2 rs.length cb2), (5, Ni i), (54, .bool false), (58, .pointer (some (p21.add 3)))] hS9 (PQ.th (PQ.bk (PQ.th (PQ.th (PQ.bk (PQ.th PQ.body)))))) ?_
     refine gdq 42 rfl (fun w_ hS => (rd_load (by kernel_rfl) rfl (hS.zin _ _ (hp22 3 _ (by decide) (rowC_at eiC_len hq 3 (by decide) rfl))))) hS9 (PQ.th (PQ.bk (PQ.th (PQ.th (PQ.bk (PQ.th PQ.body)))))) ?_
     refine gdq 43 rfl (fun w_ hS => (rd_str (e := 5) (by kernel_rfl) (by kernel_rfl) (by kernel_rfl) rfl (hbx.mono hS.zin))) hS9 (PQ.th (PQ.bk (PQ.th (PQ.th (PQ.bk (PQ.th PQ.body)))))) ?_
     obtain ⟨p24, hi26, hp25⟩ := hb.idx i (by omega) (by decide)
     refine gdo 2 [44,45] [(0, .slice Aa qs.length ca), (1, .slice Ab2 rs.length cb2), (5, Ni i), (54, .bool false), (60, .string (bs q.d)), (61, .slice Ab2 rs.length cb2), (62, Ni i)] hS9 (PQ.th (PQ.bk (PQ.th (PQ.th (PQ.bk (PQ.th PQ.body)))))) ?_
     refine gdq 46 rfl (fun w_ hS => (rd_idx (e := 64) (m := 4) (by kernel_rfl) (by kernel_rfl) rfl rfl hi26)) hS9 (PQ.th (PQ.bk (PQ.th (PQ.th (PQ.bk (PQ.th PQ.body)))))) ?_
     refine gdo 1 [47] [(0, .slice Aa qs.length ca), (1, .slice Ab2 rs.length cb2), (5, Ni i), (54, .bool false), (60, .string (bs q.d)), (64, .pointer (some (p24.add 3)))] hS9 (PQ.th (PQ.bk (PQ.th (PQ.th (PQ.bk (PQ.th PQ.body)))))) ?_
     refine gdq 48 rfl (fun w_ hS => (rd_load (by kernel_rfl) rfl (hS.zin _ _ (hp25 3 _ (by decide) (rowC_at eiC_len hr 3 (by decide) rfl))))) hS9 (PQ.th (PQ.bk (PQ.th (PQ.th (PQ.bk (PQ.th PQ.body)))))) ?_
     refine gdq 49 rfl (fun w_ hS => (rd_str (e := 5) (by kernel_rfl) (by kernel_rfl) (by kernel_rfl) rfl (hby.mono hS.zin))) hS9 (PQ.th (PQ.bk (PQ.th (PQ.th (PQ.bk (PQ.th PQ.body)))))) ?_
     refine gdq 50 rfl (fun w_ hS => (rd_sneq (by kernel_rfl) rfl rfl)) hS9 (PQ.th (PQ.bk (PQ.th (PQ.th (PQ.bk (PQ.th PQ.body)))))) ?_
     refine gdk [(0, .slice Aa qs.length ca), (1, .slice Ab2 rs.length cb2), (5, Ni i), (54, .bool false), (67, .bool (!(q.d == r.d)))] ?_
     refine gdo 1 [51] [(0, .slice Aa qs.length ca), (1, .slice Ab2 rs.length cb2), (5, Ni i), (68, .bool (!(q.d == r.d)))] hS9 (PQ.th (PQ.bk (PQ.th (PQ.th (PQ.bk (PQ.th PQ.body)))))) ?_
     refine gdn [(0, .slice Aa qs.length ca), (1, .slice Ab2 rs.length cb2), (5, Ni i), (68, .bool (!(q.d == r.d)))] ?_
     refine sw_next ?_
     refine sw_cond rfl rfl (fun hc9 => ?_) (fun hc9 => ?_)
     ·
      try simp only [Bool.not_eq_true', beq_eq_false_iff_ne, ne_eq] at hc9
      have hne := hc9
      refine sw_sr ?_
      refine glo 1 [(4, .bool false)] ?_
      refine gl_dn rfl ?_
      refine sw_ret ?_
      refine bkR ?_
      refine thR ?_
      refine thR ?_
      refine bkR ?_
      refine thR ?_
      refine ret1 rfl rfl  ?_
      first | exact ⟨false, rfl, ⟨fun h => Bool.noConfusion h, fun h => absurd h (ea_ne hq hr (fun e9 => hne (by rw [show q = r from e9])))⟩, (hH.sublist sln).fresh⟩ | exact ⟨true, rfl, ⟨fun _ => ea_eq hlen (fun j hj => hall j (by omega)), fun _ => rfl⟩, hH.fresh⟩ | exact ⟨false, rfl, ⟨fun h => Bool.noConfusion h, fun h => absurd (congrArg List.length h) (by simp; omega)⟩, hH.fresh⟩
     try simp only [Bool.not_eq_false', beq_iff_eq] at hc9
     have hD1 := hc9
     refine sw_skip ?_
     refine bkN ?_
     refine sw_next ?_
     refine sw_region ?_
     refine glo 2 [(0, .slice Aa qs.length ca), (1, .slice Ab2 rs.length cb2), (16, .int .i64 (IntKind.i64.wrap (((i : Nat) : Int) + 1)))] ?_
     refine gl_cv 16 (Ni (i + 1)) (cv_i64 (by omega)) rfl ?_
     refine glo 1 [(0, .slice Aa qs.length ca), (1, .slice Ab2 rs.length cb2), (5, Ni (i + 1))] ?_
     refine gl_done rfl ?_
     refine rnd_end (g := (i)) (i + 1) (by kernel_rfl) ?_ ?_
     · exact ⟨by omega, ea_next hall hq hr (ea_ext hI1 hT1 hK1 hD1), hH⟩
     · show qs.length - (i + 1) < qs.length - i; omega
 try simp only [decide_eq_false_iff_not, Int.not_lt, Int.not_le] at hc2
 refine sw_exit ?_
 refine thX ?_
 refine thX ?_
 refine bkH ?_
 refine sw_next ?_
 refine sw_sr ?_
 refine glo 1 [(4, .bool true)] ?_
 refine gl_dn rfl ?_
 refine sw_ret ?_
 refine ret1 rfl rfl  ?_
 first | exact ⟨false, rfl, ⟨fun h => Bool.noConfusion h, fun h => absurd h (ea_ne hq hr (fun e9 => hne (by rw [show q = r from e9])))⟩, (hH.sublist sln).fresh⟩ | exact ⟨true, rfl, ⟨fun _ => ea_eq hlen (fun j hj => hall j (by omega)), fun _ => rfl⟩, hH.fresh⟩ | exact ⟨false, rfl, ⟨fun h => Bool.noConfusion h, fun h => absurd (congrArg List.length h) (by simp; omega)⟩, hH.fresh⟩
end Go.Proofs.YtajapgjemefoiaaGreatDoor
/- Layer 19 (wal): frames: entries' records behind some bytes: what it answers. -/
set_option maxRecDepth 100000
set_option maxHeartbeats 1000000
set_option linter.unusedVariables false
set_option linter.unusedSimpArgs false
namespace Go.Proofs.YtajapgjemefoiaaGreatDoor
open Go.RowKit Go.SW
def enB (es : EQ) : List UInt8 := recsB (es.map fun q => enR q.1)
theorem enB_next {es : EQ} {i : Nat} {q : En × Value} (h : es[i]? = some q) : enB (es.take (i + 1)) = enB (es.take i) ++ recB (enR q.1) := by
  have hi := (List.getElem?_eq_some_iff.1 h).1
  have he := (List.getElem?_eq_some_iff.1 h).2
  rw [List.take_succ_eq_append_getElem hi, he]
  simp [enB, recsB]
theorem enB_le {es : EQ} (i : Nat) : (enB (es.take i)).length ≤ (enB es).length := by
  have : enB es = enB (es.take i) ++ enB (es.drop i) := by
    conv => lhs; rw [← List.take_append_drop i es]
    simp only [enB, recsB, List.map_append, List.flatten_append]
  rw [this, List.length_append]; omega
structure EnOk (c : Zone) (q : En × Value) : Prop where
  d : RB c q.2 q.1.d
  ix : q.1.ix < 9223372036854775808
  tm : q.1.tm < 9223372036854775808
  kd : q.1.kd < 9223372036854775808

theorem Frames_ct (vb vx : Value) (b : List UInt8) (es : EQ) (w : World) (hM : Mine w [.row vb 5 1 b.length (bv b)]) (hE : Row (off w (blksOf [.row vb 5 1 b.length (bv b)])) vx 4 es.length (rowC enC es)) (hok : ∀ q ∈ es, EnOk (off w (blksOf [.row vb 5 1 b.length (bv b)])) q) (hl : b.length + (enB es).length ≤ 4294967296) (hn : es.length ≤ 1048576) :
    Fun Tryz.prog 52 [vb, vx] w fun v w' => ∃ v1, v = v1 ∧ Turn w w' [.row vb 5 1 b.length (bv b)] [.row v1 5 1 (b ++ enB es).length (bv (b ++ enB es))] := by
 obtain ⟨Ab, cb, rfl, hb1, hb2⟩ := (Row.of_own (hM.1 _ (List.mem_singleton.2 rfl))).form
 obtain ⟨Ax, cx, rfl, hx1, hx2⟩ := hE.form
 refine fun_of_sw Tryz.func52 rfl 27 rfl rfl ?_
 have hH := Hp.start_mine hM
 refine sw_sr ?_
 refine glo 1 [(0, .slice Ab b.length cb), (1, .slice Ax es.length cx)] ?_
 refine gl_dn rfl ?_
 refine sw_seq ?_
 refine sw_sr ?_
 refine glo 1 [(0, .slice Ab b.length cb), (7, .slice Ax es.length cx)] ?_
 refine gl_q rfl rfl rfl (rd_len (e := 64) (by kernel_rfl) rfl) ?_
 refine glo 1 [(0, .slice Ab b.length cb), (7, .slice Ax es.length cx), (8, Ni es.length), (9, .int .i64 0)] ?_
 refine gl_dn rfl ?_
 refine sw_block ?_
 refine sw_loop (γ := Nat × Nat × Option Addr × Nat) (fun (i, n, A, c) => [(0, .slice A n c), (7, .slice Ax es.length cx), (8, Ni es.length), (9, Ni i)]) (fun (i, n, A, c) w_ => (i ≤ es.length) ∧ (n = b.length + (enB (es.take i)).length) ∧ Hp w w_ (off w (blksOf [.row (.slice Ab b.length cb) 5 1 b.length (bv b)])) (blksOf [.row (.slice Ab b.length cb) 5 1 b.length (bv b)]) [.row (.slice A n c) 5 1 n (bv (b ++ enB (es.take i)))]) (fun (i, n, A, c) => es.length - i) (0, b.length, Ab, cb) (Sub.of_eq (by kernel_rfl)) ?_ ?_
 · exact ⟨Nat.zero_le _, by simp [enB, recsB], hH.cast (by simp [enB, recsB])⟩
 clear hH
 rintro ⟨i, n, A, c⟩ w1 ⟨hi, hn9, hH⟩
 refine swk [(0, .slice A n c), (7, .slice Ax es.length cx), (8, Ni es.length), (9, Ni i)] ?_
 refine sw_sr ?_
 refine glo 1 [(0, .slice A n c), (7, .slice Ax es.length cx), (8, Ni es.length), (9, Ni i), (10, .bool (decide (((i : Nat) : Int) < ((es.length : Nat) : Int))))] ?_
 refine gl_dn rfl ?_
 refine sw_seq ?_
 refine sw_cond rfl rfl (fun hc1 => ?_) (fun hc1 => ?_)
 ·
  try simp only [decide_eq_true_eq] at hc1
  refine sw_skip ?_
  refine sw_next ?_
  refine sw_seq ?_
  refine sw_block ?_
  obtain ⟨⟨⟨ix, tm, kd, dq⟩, vq⟩, hq⟩ : ∃ x, es[i]? = some x := ⟨_, List.getElem?_eq_getElem (by omega)⟩
  obtain ⟨kq, q1, q2, q3⟩ := hok _ (List.mem_of_getElem? hq)
  simp only at kq q1 q2 q3
  obtain ⟨Ad, cd, rfl, _, _⟩ := kq.row.form
  have hnx := enB_next hq
  have hle := enB_le (es := es) (i + 1)
  rw [hnx, List.length_append] at hle
  refine sw_sr ?_
  obtain ⟨p2, hi4, hp3⟩ := hE.idx i (by omega) (by decide)
  refine gl_q rfl rfl rfl (rd_idx (e := 64) (m := 4) (by kernel_rfl) (by kernel_rfl) rfl rfl hi4) ?_
  refine gl_q rfl rfl rfl (rd_loadZA (by kernel_rfl) hH hp3 rfl 0 rfl [Ni ix, Ni tm, Ni kd, .slice Ad dq.length cd] (by kernel_rfl) (rowC_all enC_len hq 0 _ rfl)) ?_
  refine gl_st (st_allocH rfl rfl rfl (cs := [.int .i64 0, .int .i64 0, .int .i64 0, .slice none 0 0]) (by kernel_rfl) hH ?_)
  clear hH; intro b5 w6 hH
  refine gl_st (st_storeKA (vs := [Ni ix, Ni tm, Ni kd, .slice Ad dq.length cd]) 1 rfl rfl rfl hH rfl rfl (by kernel_rfl) (by kernel_rfl) rfl (by simp) [Ni ix, Ni tm, Ni kd, .slice Ad dq.length cd] rfl ?_)
  clear hH; intro w7 hH
  refine gl_dn rfl ?_
  refine sw_region ?_
  refine glo 2 [(6, Pp b5 0), (7, .slice Ax es.length cx), (8, Ni es.length), (9, Ni i), (13, .slice A n c), (14, Pp b5 0)] ?_
  refine gl_q rfl rfl rfl (rd_loadK 1 (by kernel_rfl) hH rfl rfl rfl) ?_
  refine glo 1 [(6, Pp b5 0), (7, .slice Ax es.length cx), (8, Ni es.length), (9, Ni i), (13, .slice A n c), (15, Ni ix), (16, Pp b5 1)] ?_
  refine gl_q rfl rfl rfl (rd_loadK 1 (by kernel_rfl) hH rfl rfl rfl) ?_
  refine glo 1 [(6, Pp b5 0), (7, .slice Ax es.length cx), (8, Ni es.length), (9, Ni i), (13, .slice A n c), (15, Ni ix), (17, Ni tm), (18, Pp b5 2)] ?_
  refine gl_q rfl rfl rfl (rd_loadK 1 (by kernel_rfl) hH rfl rfl rfl) ?_
  refine glo 1 [(7, .slice Ax es.length cx), (8, Ni es.length), (9, Ni i), (13, .slice A n c), (15, Ni ix), (17, Ni tm), (19, Ni kd), (20, Pp b5 3)] ?_
  refine gl_q rfl rfl rfl (rd_loadK 1 (by kernel_rfl) hH rfl rfl rfl) ?_
  refine glo 1 [(7, .slice Ax es.length cx), (8, Ni es.length), (9, Ni i), (13, .slice A n c), (22, .agg #[.int .i64 2, Ni ix, Ni tm, Ni kd, .slice Ad dq.length cd])] ?_
  refine gl_st (st_call rfl rfl rfl (by kernel_rfl) rfl (RecFrame_ct 2 ix tm kd _ dq _ (kq.mono hH.zin) (by omega) (by omega) (by omega) (by omega)) ?_)
  rintro _ w10 ⟨v8, rfl, hF11⟩
  replace hH := hH.call hF11; clear hF11
  obtain ⟨A12, c13, rfl, hl14, hm15⟩ := hH.row_form 2 rfl
  refine gl_st (st_appH (e := 5) (zv := .int .u8 0) (m := 1) (bytes := 1) 0 rfl rfl rfl (by kernel_rfl) (by kernel_rfl) rfl (by decide) hH rfl rfl rfl (hH.row_reads 2 rfl) (bv_one _) (by simp only [List.length_append] at *; unfold maxLen; simp only [enR] at *; omega) (by simp only [List.length_append] at *; simp only [enR] at *; omega) ?_)
  clear hH; intro v16 w17 hH
  replace hH := hH.row_eq 0 (l' := ((b ++ enB (es.take i)) ++ (recB ⟨2, ix, tm, kd, dq⟩)).length) (xs' := bv ((b ++ enB (es.take i)) ++ (recB ⟨2, ix, tm, kd, dq⟩))) rfl (by simp only [List.length_append, List.length_cons, List.length_nil] <;> omega) ((bv_append _ _).symm)
  obtain ⟨A18, c19, rfl, hl20, hm21⟩ := hH.row_form 0 rfl
  refine glo 1 [(0, .slice A18 (((b ++ enB (es.take i)) ++ (recB ⟨2, ix, tm, kd, dq⟩)).length) c19), (7, .slice Ax es.length cx), (8, Ni es.length), (9, Ni i)] ?_
  refine gl_done rfl ?_
  refine bkN ?_
  refine sw_next ?_
  refine sw_region ?_
  refine glo 1 [(0, .slice A18 (((b ++ enB (es.take i)) ++ (recB ⟨2, ix, tm, kd, dq⟩)).length) c19), (7, .slice Ax es.length cx), (8, Ni es.length), (25, .int .i64 (IntKind.i64.wrap (((i : Nat) : Int) + 1)))] ?_
  refine gl_cv 25 (Ni (i + 1)) (cv_i64 (by omega)) rfl ?_
  refine glo 1 [(0, .slice A18 (((b ++ enB (es.take i)) ++ (recB ⟨2, ix, tm, kd, dq⟩)).length) c19), (7, .slice Ax es.length cx), (8, Ni es.length), (9, Ni (i + 1))] ?_
  refine gl_done rfl ?_
  refine rnd_end (g := (i, n, A, c)) (i + 1, ((b ++ enB (es.take i)) ++ (recB ⟨2, ix, tm, kd, dq⟩)).length, A18, c19) (by kernel_rfl) ?_ ?_
  replace hH : Hp w w17 _ _ [_] := (hH.sublist (slk sln))
  · exact ⟨by omega, by rw [hnx]; simp only [List.length_append, enR] at *; omega, hH.cast (by rw [hnx, ← List.append_assoc]; rfl)⟩
  · show es.length - (i + 1) < es.length - i; omega
 try simp only [decide_eq_false_iff_not, Int.not_lt, Int.not_le] at hc1
 refine sw_exit ?_
 refine thX ?_
 refine thX ?_
 refine bkH ?_
 refine sw_next ?_
 refine sw_sr ?_
 refine glo 2 [(4, .slice A n c)] ?_
 refine gl_dn rfl ?_
 refine sw_ret ?_
 refine ret1 rfl rfl  ?_
 have hie : i = es.length := by omega
 subst hie
 rw [List.take_length] at hH hn9
 exact ⟨_, rfl, (hH.cast (by rw [hn9, List.length_append])).turned⟩
end Go.Proofs.YtajapgjemefoiaaGreatDoor
/- The calculus of SW: a pool: blocks that stay as they are, however many; what is read in them hangs on no world. Plain theorems. -/
set_option linter.unusedVariables false
set_option linter.unusedSimpArgs false
set_option maxRecDepth 100000
namespace Go.SW
open Go Go.RowKit
theorem rd_if_eq {P : Program} {fr : Fr} {w : World} {d : Option Tmp} {ty : TypeId} {pos : String} {aft : Array Edge} {g : Option (Nat × Bool)} {t t2 : TypeId} {x : Operand} (ht : isIfaceT P t = true) {z : Bool} {T : TypeId} {v : Value} (hx : ev fr x = ifW z T v) : Runs P fr ⟨d, .binOp .eql t x (.const .nilIface) t2, ty, pos, aft, g⟩ (.bool z) w := by
  unfold isIfaceT at ht
  cases hu : P.underlying t with
  | none => simp [hu] at ht
  | some D =>
    cases D with
    | interface D =>
      unfold Runs
      cases z with
      | true =>
        have h : (Op.equal t .nilIface .nilIface).run P w = .ok true w := run_eqn0 9999 hu
        simp only [execOp, hx, ev_const, ifW, cond_true, Sem.run_bind]
        rw [show (eqGuard .eql t x (.const .nilIface) .nilIface .nilIface).run P w = .ok () w from by simp [eqGuard]]
        simp only [Result.andThen_ok]
        rw [show binOp .eql t .nilIface .nilIface = (do pure (.bool (← Op.equal t .nilIface .nilIface))) from rfl]
        simp only [Sem.run_bind, h, Result.andThen_ok, Sem.run_pure]
      | false =>
        have h : (Op.equal t (.iface T v) .nilIface).run P w = .ok false w := run_eqn1 9999 hu
        simp only [execOp, hx, ev_const, ifW, cond_false, Sem.run_bind]
        rw [show (eqGuard .eql t x (.const .nilIface) (.iface T v) .nilIface).run P w = .ok () w from by simp [eqGuard]]
        simp only [Result.andThen_ok]
        rw [show binOp .eql t (.iface T v) .nilIface = (do pure (.bool (← Op.equal t (.iface T v) .nilIface))) from rfl]
        simp only [Sem.run_bind, h, Result.andThen_ok, Sem.run_pure]
    | _ => simp [hu] at ht
abbrev Pl := List (Nat × Obj)
def plO (pl : Pl) : Own := .grp (pl.map fun p => .obj p.1 p.2)
def objCell (o : Obj) (a : Addr) : Option Value := match o with | .cells c _ _ => if a.spot.isSome then none else c[a.off]? | _ => none
def pz (pl : Pl) : Zone := fun a => (pl.find? fun p => Nat.beq p.1 a.block).bind fun p => objCell p.2 a
theorem objCell_is {w : World} {a : Addr} {o : Obj} (h : w.heap[a.block]? = some o) : w.cell? a = objCell o a := by
  unfold World.cell? objCell
  rw [h]
  cases o <;> rfl
theorem plO_at {w : World} {pl : Pl} (h : (plO pl).at w) : ∀ p ∈ pl, w.heap[p.1]? = some p.2 := fun p hp => h (.obj p.1 p.2) (List.mem_map.2 ⟨p, hp, rfl⟩)
theorem plO_blk {pl : Pl} {g : Nat} : g ∈ (plO pl).blks ↔ ∃ p ∈ pl, p.1 = g := by
  show g ∈ blksOf (pl.map fun p => .obj p.1 p.2) ↔ _
  unfold blksOf
  rw [List.mem_flatMap]
  constructor
  · rintro ⟨o, ho, hg⟩
    obtain ⟨p, hp, rfl⟩ := List.mem_map.1 ho
    exact ⟨p, hp, (List.mem_singleton.1 hg).symm⟩
  · rintro ⟨p, hp, rfl⟩
    exact ⟨_, List.mem_map.2 ⟨p, hp, rfl⟩, List.mem_singleton.2 rfl⟩
theorem pz_find {pl : Pl} {a : Addr} {v : Value} (h : pz pl a = some v) : ∃ p ∈ pl, p.1 = a.block ∧ objCell p.2 a = some v := by
  obtain ⟨p, hp, h2⟩ := Option.bind_eq_some_iff.1 h
  exact ⟨p, List.mem_of_find?_eq_some hp, Nat.eq_of_beq_eq_true (List.find?_some (p := fun p : Nat × Obj => Nat.beq p.1 a.block) hp), h2⟩
theorem pz_in {w : World} {pl : Pl} (h : (plO pl).at w) : (pz pl).le w.cell? := by
  intro a v hv
  obtain ⟨p, hp, hb, h2⟩ := pz_find hv
  have := plO_at h p hp
  rw [hb] at this
  rw [objCell_is this]; exact h2
theorem pz_app (pl p2 : Pl) : (pz pl).le (pz (pl ++ p2)) := by
  intro a v hv
  obtain ⟨p, hp, h2⟩ := Option.bind_eq_some_iff.1 hv
  unfold pz
  rw [List.find?_append, hp]; exact h2
theorem pz_skip {pl p2 : Pl} {a : Addr} (h : ∀ p ∈ pl, p.1 ≠ a.block) : pz (pl ++ p2) a = pz p2 a := by
  unfold pz
  rw [List.find?_append, List.find?_eq_none.2 (fun p hp => by simpa using h p hp)]; rfl
section
variable {w w0 : World} {z : Zone} {F : List Nat} {mine os r : List Own}
theorem pz_le (hH : Hp w0 w z F os) (k : Nat) {pl : Pl} (hk : os[k]? = some (plO pl)) : (pz pl).le w.cell? := pz_in (hH.own _ (List.mem_of_getElem? hk))
theorem pz_off (hH : Hp w0 w z F (mine ++ os)) (k : Nat) {pl : Pl} (hk : os[k]? = some (plO pl)) : (pz pl).le (off w (blksOf mine)) := by
  have hm := List.mem_of_getElem? hk
  have hl := pz_in (hH.own _ (List.mem_append_right _ hm))
  intro a v hv
  obtain ⟨p, hp, hb, _⟩ := pz_find hv
  have hn := hH.nodup
  rw [blksOf_append] at hn
  have hnot : a.block ∉ blksOf mine := fun h => (List.nodup_append.1 hn).2.2 _ h _ (List.mem_flatMap.2 ⟨_, hm, plO_blk.2 ⟨p, hp, hb⟩⟩) rfl
  unfold off
  rw [if_neg hnot]
  exact hl a v hv
theorem Row.on {c c' : Zone} {g l cap m n : Nat} {xs : List Value} (h : Row c (.slice (some ⟨g, 0, none⟩) l cap) m n xs) (hc : ∀ a, a.block = g → ∀ v, c a = some v → c' a = some v) : Row c' (.slice (some ⟨g, 0, none⟩) l cap) m n xs := by
  obtain ⟨h0, A, cap', e, h1, h2, h3⟩ := h
  cases e
  refine ⟨h0, _, _, rfl, h1, h2, fun j u hu => ?_⟩
  obtain ⟨ad, e, hp⟩ := h3 j u hu
  cases e
  exact ⟨_, rfl, hc _ (by unfold Addr.add; split <;> rfl) _ hp⟩
theorem Hp.pool (h : Hp w0 w z F os) : Hp w0 w z F (os ++ [plO []]) := h.nogrp
theorem pl_add {v : Value} {e : TypeId} {m n : Nat} {xs : List Value} {pl : Pl} (h : Hp w0 w z F (.row v e m n xs :: plO pl :: r)) : ∃ p2, Row (pz (pl ++ p2)) v m n xs ∧ Hp w0 w z F (plO (pl ++ p2) :: r) := by
  have hr : w.ownsRow 0 e m v n xs := h.own _ List.mem_cons_self
  rcases hr.2 with ⟨rfl, rfl⟩ | ⟨g, cap, cur, rfl, hb, hg, hn, hm, hs, ht⟩
  · have : xs = [] := List.eq_nil_of_length_eq_zero (by simpa using hr.1)
    subst this
    refine ⟨[], Row.nil _ _, ?_⟩
    rw [List.append_nil]
    exact h.sublist (.cons _ (List.Sublist.refl _))
  · have hnd := h.nodup
    have hnot : ∀ p ∈ pl, p.1 ≠ g := fun p hp e => by
      have h2 := (List.nodup_append.1 (show ([g] ++ blksOf (plO pl :: r)).Nodup from hnd)).2.2 g (List.mem_singleton.2 rfl) g
      exact h2 (List.mem_flatMap.2 ⟨_, List.mem_cons_self, plO_blk.2 ⟨p, hp, e⟩⟩) rfl
    refine ⟨[(g, .cells cur e (0, 0))], ?_, ?_⟩
    · refine (Row.of_own hr).on fun a ha u hu => ?_
      rw [pz_skip (fun p hp => by rw [ha]; exact hnot p hp)]
      have hg2 : w.heap[a.block]? = some (.cells cur e (0, 0)) := by rw [ha]; exact hg
      rw [objCell_is hg2] at hu
      unfold pz
      simp only [List.find?_cons, ha, Nat.beq_refl]
      exact hu
    · have h1 : Hp w0 w z F (.obj g (.cells cur e (0, 0)) :: plO pl :: r) := h.weak rfl (fun _ => hg)
      have h2 := (h1.perm (List.Perm.swap _ _ _)).merge
      exact h2.cast (by simp [plO])
end
end Go.SW
