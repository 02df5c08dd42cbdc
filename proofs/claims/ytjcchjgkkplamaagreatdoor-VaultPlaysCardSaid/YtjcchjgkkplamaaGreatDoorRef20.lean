/- Layer 20, the document's own answer (muntinref20): snapshots in bytes and back, their parts: the same as the program's. -/
import Derived.Test.YtjcchjgkkplamaaGreatDoorRef1
import Derived.Test.YtjcchjgkkplamaaGreatDoorPut
import Derived.Test.YtjcchjgkkplamaaGreatDoorCalc
import Derived.Deep.DeepAppendWide
set_option maxRecDepth 100000
set_option maxHeartbeats 2000000
set_option linter.unusedVariables false
set_option linter.unusedSimpArgs false
namespace Go.Proofs.YtjcchjgkkplamaaGreatDoor
open Go.RowKit Go.SW
theorem blobB_le (c : List UInt8) : (blobB c).length ≤ 65545 := by
  have := numB_le c.length
  unfold blobB
  split <;> (try simp only [List.length_append, List.length_nil]) <;> omega

theorem RBytes_ct (i t : Int) (vc vd : Value) (cf dt : List UInt8) (w : World) (hc : RB w.cell? vc cf) (hd : RB w.cell? vd dt) (hi : -9223372036854775808 ≤ i ∧ i ≤ 9223372036854775807) (ht : -9223372036854775808 ≤ t ∧ t ≤ 9223372036854775807) (hdl : dt.length ≤ 140737488355328) :
    Fun Tryz.prog 35 [.agg #[.int .i64 i, .int .i64 t, vc, vd]] w fun v w' => ∃ v1, v = .tuple #[v1, .int .i64 (((bytesV i t cf dt).2 : Nat) : Int)] ∧ Fresh w w' [.row v1 5 1 (bytesV i t cf dt).1.length (bv (bytesV i t cf dt).1)] := by
  obtain ⟨Ac, cc, rfl, hc1, hc2⟩ := hc.row.form
  obtain ⟨Ad, cd, rfl, hd1, hd2⟩ := hd.row.form
  have hn1 := numB_le i.toNat
  have hn2 := numB_le t.toNat
  have hbl := blobB_le cf
  have hlA : (numB i.toNat ++ numB t.toNat).length ≤ 18 := by simp only [List.length_append]; omega
  have hlB : (numB i.toNat ++ numB t.toNat ++ blobB cf).length ≤ 65563 := by simp only [List.length_append]; omega
  refine fun_of_sw Tryz.func35 rfl 57 rfl rfl ?_
  have hH := Hp.start w
  refine sw_sr ?_
  refine gl_st (st_boxH (cs := [.int .i64 i, .int .i64 t, .slice Ac cf.length cc, .slice Ad dt.length cd]) rfl rfl rfl rfl hH ?_)
  clear hH; intro b1 w2 hH
  refine gl_ops 2 [(1, Pp b1 0)] (by kernel_rfl) ?_
  refine gl_dn rfl ?_
  refine sw_seq ?_
  refine sw_sr ?_
  refine gl_ops 1 [(1, Pp b1 0), (11, Pp b1 0)] (by kernel_rfl) ?_
  refine gl_q rfl rfl rfl (rd_loadK 0 (by kernel_rfl) hH rfl rfl rfl) ?_
  refine gl_ops 2 [(1, Pp b1 0), (14, .bool (decide ((i : Int) < (0 : Int))))] (by kernel_rfl) ?_
  refine gl_split 14 (b := decide ((i : Int) < (0 : Int))) rfl (fun hg1 => ?_) (fun hg1 => ?_)
  ·
    try simp only [decide_eq_true_eq] at hg1
    refine gl_ops 10 [(1, Pp b1 0), (24, .bool true)] (by kernel_rfl) ?_
    refine gl_dn rfl ?_
    refine sw_true rfl rfl ?_
    refine sw_sr ?_
    refine gl_ops 2 [(2, .slice none 0 0), (3, .int .i64 1)] (by kernel_rfl) ?_
    refine gl_dn rfl ?_
    refine sw_ret ?_
    refine thR ?_
    refine ret2 rfl rfl rfl  ?_
    exact ⟨_, by unfold bytesV; rw [if_pos (by omega)]; rfl, ((hH.sublist (List.nil_sublist _)).nilRow 5 1).cast (by unfold bytesV; rw [if_pos (by omega)]; rfl) |>.fresh⟩
  try simp only [decide_eq_false_iff_not, Int.not_lt, Int.not_le] at hg1
  refine gl_ops 1 [(1, Pp b1 0), (14, .bool false), (15, Pp b1 1)] (by kernel_rfl) ?_
  refine gl_q rfl rfl rfl (rd_loadK 0 (by kernel_rfl) hH rfl rfl rfl) ?_
  refine gl_ops 3 [(1, Pp b1 0), (19, .bool (decide ((t : Int) < (0 : Int))))] (by kernel_rfl) ?_
  refine gl_split 19 (b := decide ((t : Int) < (0 : Int))) rfl (fun hg3 => ?_) (fun hg3 => ?_)
  ·
    try simp only [decide_eq_true_eq] at hg3
    refine gl_ops 5 [(1, Pp b1 0), (24, .bool true)] (by kernel_rfl) ?_
    refine gl_dn rfl ?_
    refine sw_true rfl rfl ?_
    refine sw_sr ?_
    refine gl_ops 2 [(2, .slice none 0 0), (3, .int .i64 1)] (by kernel_rfl) ?_
    refine gl_dn rfl ?_
    refine sw_ret ?_
    refine thR ?_
    refine ret2 rfl rfl rfl  ?_
    exact ⟨_, by unfold bytesV; rw [if_neg (by omega), if_pos (by omega)]; rfl, ((hH.sublist (List.nil_sublist _)).nilRow 5 1).cast (by unfold bytesV; rw [if_neg (by omega), if_pos (by omega)]; rfl) |>.fresh⟩
  try simp only [decide_eq_false_iff_not, Int.not_lt, Int.not_le] at hg3
  refine gl_ops 1 [(1, Pp b1 0), (19, .bool false), (20, Pp b1 2)] (by kernel_rfl) ?_
  refine gl_q rfl rfl rfl (rd_loadK 0 (by kernel_rfl) hH rfl rfl rfl) ?_
  refine gl_q rfl rfl rfl (rd_len (e := 5) (by kernel_rfl) rfl) ?_
  refine gl_ops 2 [(1, Pp b1 0), (24, .bool (decide (((cf.length : Nat) : Int) > (65536 : Int))))] (by kernel_rfl) ?_
  refine gl_dn rfl ?_
  refine sw_cond rfl rfl (fun hc5 => ?_) (fun hc5 => ?_)
  ·
    try simp only [decide_eq_true_eq] at hc5
    refine sw_sr ?_
    refine gl_ops 2 [(2, .slice none 0 0), (3, .int .i64 1)] (by kernel_rfl) ?_
    refine gl_dn rfl ?_
    refine sw_ret ?_
    refine thR ?_
    refine ret2 rfl rfl rfl  ?_
    exact ⟨_, by unfold bytesV; rw [if_neg (by omega), if_neg (by omega), if_pos (by omega)]; rfl, ((hH.sublist (List.nil_sublist _)).nilRow 5 1).cast (by unfold bytesV; rw [if_neg (by omega), if_neg (by omega), if_pos (by omega)]; rfl) |>.fresh⟩
  try simp only [decide_eq_false_iff_not, Int.not_lt, Int.not_le] at hc5
  refine sw_skip ?_
  refine sw_next ?_
  refine sw_sr ?_
  refine gl_ops 1 [(1, Pp b1 0), (26, Pp b1 0)] (by kernel_rfl) ?_
  refine gl_q rfl rfl rfl (rd_loadK 0 (by kernel_rfl) hH rfl rfl rfl) ?_
  refine gl_st (st_call rfl rfl rfl (by kernel_rfl) rfl (RNum_ct (i : Int) (by omega) _ (by omega)) ?_)
  rintro _ w5 ⟨v3, rfl, hF6⟩
  replace hH := hH.call hF6; clear hF6
  obtain ⟨A7, c8, rfl, hl9, hm10⟩ := hH.row_form 1 rfl
  refine gl_ops 5 [(1, Pp b1 0), (4, .slice A7 ((numB i.toNat).length) c8)] (by kernel_rfl) ?_
  refine gl_dn rfl ?_
  refine sw_sr ?_
  refine gl_ops 1 [(1, Pp b1 0), (4, .slice A7 ((numB i.toNat).length) c8), (32, Pp b1 1)] (by kernel_rfl) ?_
  refine gl_q rfl rfl rfl (rd_loadK 0 (by kernel_rfl) hH rfl rfl rfl) ?_
  refine gl_st (st_call rfl rfl rfl (by kernel_rfl) rfl (RNum_ct (t : Int) (by omega) _ (by omega)) ?_)
  rintro _ w13 ⟨v11, rfl, hF14⟩
  replace hH := hH.call hF14; clear hF14
  obtain ⟨A15, c16, rfl, hl17, hm18⟩ := hH.row_form 2 rfl
  refine gl_ops 5 [(1, Pp b1 0), (4, .slice A7 ((numB i.toNat).length) c8), (6, .slice A15 ((numB t.toNat).length) c16)] (by kernel_rfl) ?_
  refine gl_dn rfl ?_
  refine sw_sr ?_
  refine gl_ops 1 [(1, Pp b1 0), (4, .slice A7 ((numB i.toNat).length) c8), (6, .slice A15 ((numB t.toNat).length) c16), (38, Pp b1 2)] (by kernel_rfl) ?_
  refine gl_q rfl rfl rfl (rd_loadK 0 (by kernel_rfl) hH rfl rfl rfl) ?_
  refine gl_st (st_call rfl rfl rfl (by kernel_rfl) rfl (RBlob_ct _ _ _ (hc.mono hH.zin)) ?_)
  rintro _ w21 ⟨v19, rfl, hF22⟩
  replace hH := hH.call hF22; clear hF22
  obtain ⟨A23, c24, rfl, hl25, hm26⟩ := hH.row_form 3 rfl
  refine gl_ops 5 [(1, Pp b1 0), (4, .slice A7 ((numB i.toNat).length) c8), (6, .slice A15 ((numB t.toNat).length) c16), (8, .slice A23 ((blobB cf).length) c24)] (by kernel_rfl) ?_
  refine gl_dn rfl ?_
  refine sw_sr ?_
  refine gl_ops 1 [(1, Pp b1 0), (4, .slice A7 ((numB i.toNat).length) c8), (6, .slice A15 ((numB t.toNat).length) c16), (8, .slice A23 ((blobB cf).length) c24), (10, .slice none 0 0)] (by kernel_rfl) ?_
  replace hH := hH.nilRow 5 1
  refine gl_dn rfl ?_
  refine sw_seq ?_
  refine sw_draw (by kernel_rfl) (fun w_ => Hp w w_ (w.cell?) [] [.blk b1 24 [.int .i64 i, .int .i64 t, .slice Ac cf.length cc, .slice Ad dt.length cd], .row (.slice A7 ((numB i.toNat).length) c8) 5 1 ((numB i.toNat).length) (bv (numB i.toNat)), .row (.slice A15 ((numB t.toNat).length) c16) 5 1 ((numB t.toNat).length) (bv (numB t.toNat)), .row (.slice A23 ((blobB cf).length) c24) 5 1 ((blobB cf).length) (bv (blobB cf))]) ?_
  replace hH := hH.drew
  generalize { w21 with drawn := w21.drawn + 1 } = w27 at hH ⊢
  have hS9 := hH.sublist (.cons_cons _ (.cons_cons _ (.cons_cons _ (.cons_cons _ (List.nil_sublist _)))))
  refine gd_pure 0 rfl (by kernel_rfl) (PQ.th PQ.body) hS9 rfl rfl (.slice none 0 0) (by kernel_rfl) ?_
  refine gd_pure 1 rfl (by kernel_rfl) (PQ.th PQ.body) hS9 rfl rfl (.slice A7 ((numB i.toNat).length) c8) (by kernel_rfl) ?_
  refine gd_pure 3 rfl (by kernel_rfl) (PQ.th PQ.body) hS9 rfl rfl (.slice A15 ((numB t.toNat).length) c16) (by kernel_rfl) ?_
  refine gd_keep [(1, Pp b1 0), (8, .slice A23 ((blobB cf).length) c24), (10, .slice none 0 0), (43, .slice none 0 0), (44, .slice A7 ((numB i.toNat).length) c8), (46, .slice A15 ((numB t.toNat).length) c16)] (by kernel_rfl) ?_
  refine gd_pure 5 rfl (by kernel_rfl) (PQ.th PQ.body) hS9 rfl rfl (.slice A23 ((blobB cf).length) c24) (by kernel_rfl) ?_
  refine gd_pure 7 rfl (by kernel_rfl) (PQ.th PQ.body) hS9 rfl rfl (Pp b1 3) (by kernel_rfl) ?_
  refine gd_q 8 rfl (by kernel_rfl) (PQ.th PQ.body) hS9 rfl rfl (fun w_ hS => (rd_loadK 0 (by kernel_rfl) hS rfl rfl rfl)) ?_
  refine gd_keep [(10, .slice none 0 0), (43, .slice none 0 0), (44, .slice A7 ((numB i.toNat).length) c8), (46, .slice A15 ((numB t.toNat).length) c16), (48, .slice A23 ((blobB cf).length) c24), (51, .slice Ad dt.length cd)] (by kernel_rfl) ?_
  refine gd_st 2 (by kernel_rfl) (st_appH (e := 5) (zv := .int .u8 0) (m := 1) (bytes := 1) 4 rfl rfl rfl (by kernel_rfl) (by kernel_rfl) rfl (by decide) hH rfl rfl rfl (hH.row_reads 1 rfl) (bv_one _) (by unfold maxLen; omega) (by omega) ?_)
  clear hH; intro v28 w29 hH
  replace hH := hH.row_eq 4 (l' := (numB i.toNat).length) (xs' := bv (numB i.toNat)) rfl (Nat.zero_add _) (List.nil_append _)
  obtain ⟨A30, c31, rfl, hl32, hm33⟩ := hH.row_form 4 rfl
  replace hS9 := hH.sublist (.cons_cons _ (.cons_cons _ (.cons_cons _ (.cons_cons _ (List.nil_sublist _)))))
  refine ⟨hS9, ?_⟩
  refine gd_keep [(10, .slice none 0 0), (45, .slice A30 ((numB i.toNat).length) c31), (46, .slice A15 ((numB t.toNat).length) c16), (48, .slice A23 ((blobB cf).length) c24), (51, .slice Ad dt.length cd)] (by kernel_rfl) ?_
  refine gd_st 4 (by kernel_rfl) (st_appH (e := 5) (zv := .int .u8 0) (m := 1) (bytes := 1) 4 rfl rfl rfl (by kernel_rfl) (by kernel_rfl) rfl (by decide) hH rfl rfl rfl (hH.row_reads 2 rfl) (bv_one _) (by unfold maxLen; omega) (by omega) ?_)
  clear hH; intro v34 w35 hH
  replace hH := hH.row_eq 4 (l' := ((numB i.toNat) ++ (numB t.toNat)).length) (xs' := bv ((numB i.toNat) ++ (numB t.toNat))) rfl (by simp only [List.length_append, List.length_cons, List.length_nil] <;> omega) ((bv_append _ _).symm)
  obtain ⟨A36, c37, rfl, hl38, hm39⟩ := hH.row_form 4 rfl
  replace hS9 := hH.sublist (.cons_cons _ (.cons_cons _ (.cons_cons _ (.cons_cons _ (List.nil_sublist _)))))
  refine ⟨hS9, ?_⟩
  refine gd_keep [(10, .slice none 0 0), (47, .slice A36 (((numB i.toNat) ++ (numB t.toNat)).length) c37), (48, .slice A23 ((blobB cf).length) c24), (51, .slice Ad dt.length cd)] (by kernel_rfl) ?_
  refine gd_st 6 (by kernel_rfl) (st_appH (e := 5) (zv := .int .u8 0) (m := 1) (bytes := 1) 4 rfl rfl rfl (by kernel_rfl) (by kernel_rfl) rfl (by decide) hH rfl rfl rfl (hH.row_reads 3 rfl) (bv_one _) (by unfold maxLen; omega) (by omega) ?_)
  clear hH; intro v40 w41 hH
  replace hH := hH.row_eq 4 (l' := (((numB i.toNat) ++ (numB t.toNat)) ++ (blobB cf)).length) (xs' := bv (((numB i.toNat) ++ (numB t.toNat)) ++ (blobB cf))) rfl (by simp only [List.length_append, List.length_cons, List.length_nil] <;> omega) ((bv_append _ _).symm)
  obtain ⟨A42, c43, rfl, hl44, hm45⟩ := hH.row_form 4 rfl
  replace hS9 := hH.sublist (.cons_cons _ (.cons_cons _ (.cons_cons _ (.cons_cons _ (List.nil_sublist _)))))
  refine ⟨hS9, ?_⟩
  refine gd_keep [(10, .slice none 0 0), (49, .slice A42 ((((numB i.toNat) ++ (numB t.toNat)) ++ (blobB cf)).length) c43), (51, .slice Ad dt.length cd)] (by kernel_rfl) ?_
  refine gd_st 9 (by kernel_rfl) (st_appF (e := 5) (zv := .int .u8 0) (m := 1) (bytes := 1) 4 rfl rfl rfl (by kernel_rfl) (by kernel_rfl) rfl (by decide) hH rfl rfl rfl (hd.row.mono hH.zin) (bv_one _) (by unfold maxLen; omega) (fun hh => growslice_fits_wide hh (by omega)) ?_)
  clear hH; intro v46 w47 hcap48 hH
  replace hH := hH.row_eq 4 (l' := ((((numB i.toNat) ++ (numB t.toNat)) ++ (blobB cf)) ++ dt).length) (xs' := bv ((((numB i.toNat) ++ (numB t.toNat)) ++ (blobB cf)) ++ dt)) rfl (by simp only [List.length_append, List.length_cons, List.length_nil] <;> omega) ((bv_append _ _).symm)
  obtain ⟨A49, c50, rfl, hl51, hm52⟩ := hH.row_form 4 rfl
  replace hS9 := hH.sublist (.cons_cons _ (.cons_cons _ (.cons_cons _ (.cons_cons _ (List.nil_sublist _)))))
  refine ⟨hS9, ?_⟩
  refine gd_keep [(10, .slice none 0 0), (52, .slice A49 (((((numB i.toNat) ++ (numB t.toNat)) ++ (blobB cf)) ++ dt).length) c50)] (by kernel_rfl) ?_
  refine gd_pure 10 rfl (by kernel_rfl) (PQ.th PQ.body) hS9 rfl rfl (.slice A49 (((((numB i.toNat) ++ (numB t.toNat)) ++ (blobB cf)) ++ dt).length) c50) (by kernel_rfl) ?_
  refine gd_done (by kernel_rfl) ?_
  refine at_sub [(10, .slice A49 (((((numB i.toNat) ++ (numB t.toNat)) ++ (blobB cf)) ++ dt).length) c50)] (Sub.of_eq (by kernel_rfl)) ?_
  refine sw_next ?_
  refine sw_sr ?_
  refine gl_ops 1 [(53, .slice A49 (((((numB i.toNat) ++ (numB t.toNat)) ++ (blobB cf)) ++ dt).length) c50)] (by kernel_rfl) ?_
  refine gl_st (st_call rfl rfl rfl (by kernel_rfl) rfl (RFrame_ct _ _ _ (rb_own hH 4 rfl)) ?_)
  rintro _ w55 ⟨v53, rfl, hF56⟩
  replace hH := hH.call hF56; clear hF56
  obtain ⟨A57, c58, rfl, hl59, hm60⟩ := hH.row_form 5 rfl
  refine gl_ops 4 [(2, .slice A57 ((frameO ((((numB i.toNat) ++ (numB t.toNat)) ++ (blobB cf)) ++ dt)).length) c58), (3, Ni (if 1048576 < ((((numB i.toNat) ++ (numB t.toNat)) ++ (blobB cf)) ++ dt).length then 2 else 0))] (by kernel_rfl) ?_
  refine gl_dn rfl ?_
  refine sw_ret ?_
  refine ret2 rfl rfl rfl  ?_
  have hbe := bytesV_end (i := i) (t := t) (cf := cf) (dt := dt) (by omega) (by omega) (by omega)
  exact ⟨_, by rw [hbe]; rfl, ((hH.sublist (.cons _ (.cons _ (.cons _ (.cons _ (.cons _ (.cons_cons _ (List.nil_sublist _)))))))).cast (by rw [hbe]; rfl)).fresh⟩
theorem readV_ok {b : List UInt8} (h1 : (openF b).2.2 = 0) (h2 : (openF b).2.1 = b.length) (h3 : (takeNum (openF b).1).2.2 = 0) (h4 : (takeNum ((openF b).1.drop (takeNum (openF b).1).2.1)).2.2 = 0) (h5 : (takeBlob ((openF b).1.drop ((takeNum (openF b).1).2.1 + (takeNum ((openF b).1.drop (takeNum (openF b).1).2.1)).2.1))).2.2 = 0) :
    readV b = (⟨(takeNum (openF b).1).1, (takeNum ((openF b).1.drop (takeNum (openF b).1).2.1)).1, (takeBlob ((openF b).1.drop ((takeNum (openF b).1).2.1 + (takeNum ((openF b).1.drop (takeNum (openF b).1).2.1)).2.1))).1, ((openF b).1.drop ((takeNum (openF b).1).2.1 + (takeNum ((openF b).1.drop (takeNum (openF b).1).2.1)).2.1 + (takeBlob ((openF b).1.drop ((takeNum (openF b).1).2.1 + (takeNum ((openF b).1.drop (takeNum (openF b).1).2.1)).2.1))).2.1))⟩, 0) := by
  unfold readV
  rw [if_neg (by omega), if_neg (by omega)]
  unfold readP
  rw [if_pos ⟨h3, h4, h5⟩]

theorem RRead_ct (vb : Value) (b : List UInt8) (w : World) (hb : RB w.cell? vb b) (hl : b.length ≤ 140737488355328) :
    Fun Tryz.prog 48 [vb] w fun v w' => ∃ v1 v2, v = .tuple #[.agg #[.int .i64 (readV b).1.idx, .int .i64 (readV b).1.term, v1, v2], .int .i64 (((readV b).2 : Nat) : Int)] ∧ Fresh w w' [.row v1 5 1 (readV b).1.conf.length (bv (readV b).1.conf), .row v2 5 1 (readV b).1.data.length (bv (readV b).1.data)] := by
  obtain ⟨Ab, cb, rfl, hb1, hb2⟩ := hb.row.form
  have hu1 := takeNum_used (openF b).1
  have hu2 := takeNum_used ((openF b).1.drop (takeNum (openF b).1).2.1)
  rw [List.length_drop] at hu2
  have hu3 := takeBlob_used ((openF b).1.drop ((takeNum (openF b).1).2.1 + (takeNum ((openF b).1.drop (takeNum (openF b).1).2.1)).2.1))
  rw [List.length_drop] at hu3
  have hol := openF_length b
  refine fun_of_sw Tryz.func48 rfl 71 rfl rfl ?_
  have hH := Hp.start w
  refine sw_sr ?_
  refine gl_st (st_allocH rfl rfl rfl (cs := [.int .i64 0, .int .i64 0, .slice none 0 0, .slice none 0 0]) (by kernel_rfl) hH ?_)
  clear hH; intro b1 w2 hH
  refine gl_ops 1 [(0, .slice Ab b.length cb), (2, Pp b1 0)] (by kernel_rfl) ?_
  refine gl_dn rfl ?_
  refine sw_sr ?_
  refine gl_ops 1 [(0, .slice Ab b.length cb), (2, Pp b1 0), (11, .slice Ab b.length cb)] (by kernel_rfl) ?_
  refine gl_st (st_call rfl rfl rfl (by kernel_rfl) rfl (ROpen_ct _ _ _ (hb.mono hH.zin)) ?_)
  rintro _ w5 ⟨v3, rfl, hF6⟩
  replace hH := hH.call hF6; clear hF6
  obtain ⟨A7, c8, rfl, hl9, hm10⟩ := hH.row_form 1 rfl
  refine gl_ops 7 [(0, .slice Ab b.length cb), (2, Pp b1 0), (4, .slice A7 (((openF b).1).length) c8), (5, Ni ((openF b).2.1)), (6, Ni ((openF b).2.2))] (by kernel_rfl) ?_
  refine gl_dn rfl ?_
  refine sw_seq ?_
  refine sw_sr ?_
  refine gl_ops 3 [(0, .slice Ab b.length cb), (2, Pp b1 0), (4, .slice A7 (((openF b).1).length) c8), (5, Ni ((openF b).2.1)), (18, .bool ((((openF b).2.2 : Nat) : Int) != (0 : Int)))] (by kernel_rfl) ?_
  refine gl_split 18 (b := (((openF b).2.2 : Nat) : Int) != (0 : Int)) rfl (fun hg1 => ?_) (fun hg1 => ?_)
  ·
    try simp only [bne_iff_ne, ne_eq] at hg1
    refine gl_ops 5 [(2, Pp b1 0), (4, .slice A7 (((openF b).1).length) c8), (23, .bool true)] (by kernel_rfl) ?_
    refine gl_dn rfl ?_
    refine sw_true rfl rfl ?_
    refine sw_sr ?_
    refine gl_ops 1 [(2, Pp b1 0), (24, .agg #[.int .i64 0, .int .i64 0, .slice none 0 0, .slice none 0 0])] (by kernel_rfl) ?_
    refine gl_st (st_storeKA (vs := [.int .i64 0, .int .i64 0, .slice none 0 0, .slice none 0 0]) 0 rfl rfl rfl hH rfl rfl (by kernel_rfl) (by kernel_rfl) rfl (by simp) [.int .i64 0, .int .i64 0, .slice none 0 0, .slice none 0 0] rfl ?_)
    clear hH; intro w11 hH
    refine gl_ops 1 [(2, Pp b1 0), (3, .int .i64 91)] (by kernel_rfl) ?_
    refine gl_dn rfl ?_
    refine sw_ret ?_
    refine thR ?_
    refine retC2 rfl (RS.cellA hH 0 (by kernel_rfl) rfl rfl (by kernel_rfl) [.int .i64 0, .int .i64 0, .slice none 0 0, .slice none 0 0] rfl rfl) (RS.tmp rfl) ?_
    have hr : readV b = (Snp.none, 91) := by unfold readV; rw [if_pos (by omega)]
    exact ⟨_, _, by rw [hr] <;> rfl, (((hH.sublist (List.nil_sublist _)).nilRow 5 1).nilRow 5 1).cast (by rw [hr] <;> rfl) |>.fresh⟩
  try simp only [bne_eq_false_iff_eq] at hg1
  refine gl_ops 2 [(2, Pp b1 0), (4, .slice A7 (((openF b).1).length) c8), (18, .bool false), (19, Ni ((openF b).2.1)), (20, .slice Ab b.length cb)] (by kernel_rfl) ?_
  refine gl_q rfl rfl rfl (rd_len (e := 5) (by kernel_rfl) rfl) ?_
  refine gl_ops 2 [(2, Pp b1 0), (4, .slice A7 (((openF b).1).length) c8), (23, .bool ((((openF b).2.1 : Nat) : Int) != ((b.length : Nat) : Int)))] (by kernel_rfl) ?_
  refine gl_dn rfl ?_
  refine sw_cond rfl rfl (fun hc3 => ?_) (fun hc3 => ?_)
  ·
    try simp only [bne_iff_ne, ne_eq] at hc3
    refine sw_sr ?_
    refine gl_ops 1 [(2, Pp b1 0), (24, .agg #[.int .i64 0, .int .i64 0, .slice none 0 0, .slice none 0 0])] (by kernel_rfl) ?_
    refine gl_st (st_storeKA (vs := [.int .i64 0, .int .i64 0, .slice none 0 0, .slice none 0 0]) 0 rfl rfl rfl hH rfl rfl (by kernel_rfl) (by kernel_rfl) rfl (by simp) [.int .i64 0, .int .i64 0, .slice none 0 0, .slice none 0 0] rfl ?_)
    clear hH; intro w12 hH
    refine gl_ops 1 [(2, Pp b1 0), (3, .int .i64 91)] (by kernel_rfl) ?_
    refine gl_dn rfl ?_
    refine sw_ret ?_
    refine thR ?_
    refine retC2 rfl (RS.cellA hH 0 (by kernel_rfl) rfl rfl (by kernel_rfl) [.int .i64 0, .int .i64 0, .slice none 0 0, .slice none 0 0] rfl rfl) (RS.tmp rfl) ?_
    have hr : readV b = (Snp.none, 91) := by unfold readV; rw [if_neg (by omega), if_pos (by omega)]
    exact ⟨_, _, by rw [hr] <;> rfl, (((hH.sublist (List.nil_sublist _)).nilRow 5 1).nilRow 5 1).cast (by rw [hr] <;> rfl) |>.fresh⟩
  try simp only [bne_eq_false_iff_eq] at hc3
  refine sw_skip ?_
  refine sw_next ?_
  refine sw_sr ?_
  refine gl_st (st_allocH rfl rfl rfl (cs := [.int .i64 0, .int .i64 0, .slice none 0 0, .slice none 0 0]) (by kernel_rfl) hH ?_)
  clear hH; intro b13 w14 hH
  refine gl_dn rfl ?_
  refine sw_sr ?_
  refine gl_ops 1 [(2, Pp b1 0), (4, .slice A7 (((openF b).1).length) c8), (7, Pp b13 0), (26, .slice A7 (((openF b).1).length) c8)] (by kernel_rfl) ?_
  refine gl_st (st_call rfl rfl rfl (by kernel_rfl) rfl (RTakeNum_ct _ _ _ (rb_own hH 1 rfl)) ?_)
  rintro _ w15 ⟨rfl, hF16⟩
  replace hH := hH.call hF16; clear hF16
  refine gl_ops 7 [(2, Pp b1 0), (4, .slice A7 (((openF b).1).length) c8), (5, Ni ((takeNum ((openF b).1)).2.1)), (6, Ni ((takeNum ((openF b).1)).2.2)), (7, Pp b13 0), (8, Ni ((takeNum ((openF b).1)).1))] (by kernel_rfl) ?_
  refine gl_dn rfl ?_
  refine sw_seq ?_
  refine sw_sr ?_
  refine gl_ops 2 [(2, Pp b1 0), (4, .slice A7 (((openF b).1).length) c8), (5, Ni ((takeNum ((openF b).1)).2.1)), (7, Pp b13 0), (8, Ni ((takeNum ((openF b).1)).1)), (32, .bool ((((takeNum ((openF b).1)).2.2 : Nat) : Int) != (0 : Int)))] (by kernel_rfl) ?_
  refine gl_dn rfl ?_
  refine sw_cond rfl rfl (fun hc4 => ?_) (fun hc4 => ?_)
  ·
    try simp only [bne_iff_ne, ne_eq] at hc4
    refine sw_sr ?_
    refine gl_ops 1 [(2, Pp b1 0), (33, .agg #[.int .i64 0, .int .i64 0, .slice none 0 0, .slice none 0 0])] (by kernel_rfl) ?_
    refine gl_st (st_storeKA (vs := [.int .i64 0, .int .i64 0, .slice none 0 0, .slice none 0 0]) 0 rfl rfl rfl hH rfl rfl (by kernel_rfl) (by kernel_rfl) rfl (by simp) [.int .i64 0, .int .i64 0, .slice none 0 0, .slice none 0 0] rfl ?_)
    clear hH; intro w17 hH
    refine gl_ops 1 [(2, Pp b1 0), (3, .int .i64 91)] (by kernel_rfl) ?_
    refine gl_dn rfl ?_
    refine sw_ret ?_
    refine thR ?_
    refine retC2 rfl (RS.cellA hH 0 (by kernel_rfl) rfl rfl (by kernel_rfl) [.int .i64 0, .int .i64 0, .slice none 0 0, .slice none 0 0] rfl rfl) (RS.tmp rfl) ?_
    have hr : readV b = (Snp.none, 91) := by unfold readV; rw [if_neg (by omega), if_neg (by omega)]; unfold readP; rw [if_neg (fun hh => by omega)]
    exact ⟨_, _, by rw [hr] <;> rfl, (((hH.sublist (List.nil_sublist _)).nilRow 5 1).nilRow 5 1).cast (by rw [hr] <;> rfl) |>.fresh⟩
  try simp only [bne_eq_false_iff_eq] at hc4
  refine sw_skip ?_
  refine sw_next ?_
  refine sw_sr ?_
  refine gl_ops 2 [(2, Pp b1 0), (4, .slice A7 (((openF b).1).length) c8), (5, Ni ((takeNum ((openF b).1)).2.1)), (7, Pp b13 0), (34, Ni ((takeNum ((openF b).1)).1)), (35, Pp b13 0)] (by kernel_rfl) ?_
  refine gl_st (st_storeK (v := Ni ((takeNum ((openF b).1)).1)) 2 rfl rfl rfl hH rfl rfl rfl (by kernel_rfl) rfl (by simp) ?_)
  clear hH; intro w18 hH
  refine gl_dn rfl ?_
  refine sw_sr ?_
  obtain ⟨A19, hk20, hv21⟩ := hH.row_win 1 rfl ((takeNum ((openF b).1)).2.1) (((openF b).1).length) c8 (by omega) (by omega) (by omega) (by omega)
  refine gl_ops 2 [(2, Pp b1 0), (7, Pp b13 0), (36, .slice A7 (((openF b).1).length) c8), (37, Ni ((takeNum ((openF b).1)).2.1))] (by kernel_rfl) ?_
  refine gl_q rfl rfl rfl (rd_cut (e := 5) (m := 1) (by kernel_rfl) (by kernel_rfl) rfl (.inr ⟨_, _, rfl, rfl⟩) (.inl ⟨rfl, rfl⟩) hk20) ?_
  refine gl_ops 1 [(2, Pp b1 0), (4, .slice A19 ((((openF b).1).length) - ((takeNum ((openF b).1)).2.1)) (c8 - ((takeNum ((openF b).1)).2.1))), (7, Pp b13 0)] (by kernel_rfl) ?_
  refine gl_dn rfl ?_
  refine sw_sr ?_
  refine gl_ops 1 [(2, Pp b1 0), (4, .slice A19 ((((openF b).1).length) - ((takeNum ((openF b).1)).2.1)) (c8 - ((takeNum ((openF b).1)).2.1))), (7, Pp b13 0), (40, .slice A19 ((((openF b).1).length) - ((takeNum ((openF b).1)).2.1)) (c8 - ((takeNum ((openF b).1)).2.1)))] (by kernel_rfl) ?_
  refine gl_st (st_call rfl rfl rfl (by kernel_rfl) rfl (RTakeNum_ct _ _ _ (RB.of_tail (Win.reads hH 1 rfl hv21 (by omega) (by omega) (by omega)))) ?_)
  rintro _ w22 ⟨rfl, hF23⟩
  replace hH := hH.call hF23; clear hF23
  refine gl_ops 7 [(2, Pp b1 0), (4, .slice A19 ((((openF b).1).length) - ((takeNum ((openF b).1)).2.1)) (c8 - ((takeNum ((openF b).1)).2.1))), (5, Ni ((takeNum (((openF b).1).drop ((takeNum ((openF b).1)).2.1))).2.1)), (6, Ni ((takeNum (((openF b).1).drop ((takeNum ((openF b).1)).2.1))).2.2)), (7, Pp b13 0), (8, Ni ((takeNum (((openF b).1).drop ((takeNum ((openF b).1)).2.1))).1))] (by kernel_rfl) ?_
  refine gl_dn rfl ?_
  refine sw_seq ?_
  refine sw_sr ?_
  refine gl_ops 2 [(2, Pp b1 0), (4, .slice A19 ((((openF b).1).length) - ((takeNum ((openF b).1)).2.1)) (c8 - ((takeNum ((openF b).1)).2.1))), (5, Ni ((takeNum (((openF b).1).drop ((takeNum ((openF b).1)).2.1))).2.1)), (7, Pp b13 0), (8, Ni ((takeNum (((openF b).1).drop ((takeNum ((openF b).1)).2.1))).1)), (46, .bool ((((takeNum (((openF b).1).drop ((takeNum ((openF b).1)).2.1))).2.2 : Nat) : Int) != (0 : Int)))] (by kernel_rfl) ?_
  refine gl_dn rfl ?_
  refine sw_cond rfl rfl (fun hc5 => ?_) (fun hc5 => ?_)
  ·
    try simp only [bne_iff_ne, ne_eq] at hc5
    refine sw_sr ?_
    refine gl_ops 1 [(2, Pp b1 0), (47, .agg #[.int .i64 0, .int .i64 0, .slice none 0 0, .slice none 0 0])] (by kernel_rfl) ?_
    refine gl_st (st_storeKA (vs := [.int .i64 0, .int .i64 0, .slice none 0 0, .slice none 0 0]) 0 rfl rfl rfl hH rfl rfl (by kernel_rfl) (by kernel_rfl) rfl (by simp) [.int .i64 0, .int .i64 0, .slice none 0 0, .slice none 0 0] rfl ?_)
    clear hH; intro w24 hH
    refine gl_ops 1 [(2, Pp b1 0), (3, .int .i64 91)] (by kernel_rfl) ?_
    refine gl_dn rfl ?_
    refine sw_ret ?_
    refine thR ?_
    refine retC2 rfl (RS.cellA hH 0 (by kernel_rfl) rfl rfl (by kernel_rfl) [.int .i64 0, .int .i64 0, .slice none 0 0, .slice none 0 0] rfl rfl) (RS.tmp rfl) ?_
    have hr : readV b = (Snp.none, 91) := by unfold readV; rw [if_neg (by omega), if_neg (by omega)]; unfold readP; rw [if_neg (fun hh => by omega)]
    exact ⟨_, _, by rw [hr] <;> rfl, (((hH.sublist (List.nil_sublist _)).nilRow 5 1).nilRow 5 1).cast (by rw [hr] <;> rfl) |>.fresh⟩
  try simp only [bne_eq_false_iff_eq] at hc5
  refine sw_skip ?_
  refine sw_next ?_
  refine sw_sr ?_
  refine gl_ops 2 [(2, Pp b1 0), (4, .slice A19 ((((openF b).1).length) - ((takeNum ((openF b).1)).2.1)) (c8 - ((takeNum ((openF b).1)).2.1))), (5, Ni ((takeNum (((openF b).1).drop ((takeNum ((openF b).1)).2.1))).2.1)), (7, Pp b13 0), (48, Ni ((takeNum (((openF b).1).drop ((takeNum ((openF b).1)).2.1))).1)), (49, Pp b13 1)] (by kernel_rfl) ?_
  refine gl_st (st_storeK (v := Ni ((takeNum (((openF b).1).drop ((takeNum ((openF b).1)).2.1))).1)) 2 rfl rfl rfl hH rfl rfl rfl (by kernel_rfl) rfl (by simp) ?_)
  clear hH; intro w25 hH
  refine gl_dn rfl ?_
  refine sw_sr ?_
  obtain ⟨A26, hk27, hv28⟩ := hv21.cut ((takeNum (((openF b).1).drop ((takeNum ((openF b).1)).2.1))).2.1) ((((openF b).1).length) - ((takeNum ((openF b).1)).2.1)) (c8 - ((takeNum ((openF b).1)).2.1)) (by omega) (by omega) (by omega) (by omega)
  refine gl_ops 2 [(2, Pp b1 0), (7, Pp b13 0), (50, .slice A19 ((((openF b).1).length) - ((takeNum ((openF b).1)).2.1)) (c8 - ((takeNum ((openF b).1)).2.1))), (51, Ni ((takeNum (((openF b).1).drop ((takeNum ((openF b).1)).2.1))).2.1))] (by kernel_rfl) ?_
  refine gl_q rfl rfl rfl (rd_cut (e := 5) (m := 1) (by kernel_rfl) (by kernel_rfl) rfl (.inr ⟨_, _, rfl, rfl⟩) (.inl ⟨rfl, rfl⟩) hk27) ?_
  have hdt29 : ((openF b).1.drop ((takeNum ((openF b).1)).2.1 + (takeNum (((openF b).1).drop ((takeNum ((openF b).1)).2.1))).2.1)).take (((((openF b).1).length) - ((takeNum ((openF b).1)).2.1)) - ((takeNum (((openF b).1).drop ((takeNum ((openF b).1)).2.1))).2.1)) = ((openF b).1.drop ((takeNum (openF b).1).2.1 + (takeNum ((openF b).1.drop (takeNum (openF b).1).2.1)).2.1)) := by rw [List.take_of_length_le (by rw [List.length_drop]; omega)]
  refine gl_ops 1 [(2, Pp b1 0), (4, .slice A26 (((((openF b).1).length) - ((takeNum ((openF b).1)).2.1)) - ((takeNum (((openF b).1).drop ((takeNum ((openF b).1)).2.1))).2.1)) ((c8 - ((takeNum ((openF b).1)).2.1)) - ((takeNum (((openF b).1).drop ((takeNum ((openF b).1)).2.1))).2.1))), (7, Pp b13 0)] (by kernel_rfl) ?_
  refine gl_dn rfl ?_
  refine sw_sr ?_
  refine gl_ops 1 [(2, Pp b1 0), (4, .slice A26 (((((openF b).1).length) - ((takeNum ((openF b).1)).2.1)) - ((takeNum (((openF b).1).drop ((takeNum ((openF b).1)).2.1))).2.1)) ((c8 - ((takeNum ((openF b).1)).2.1)) - ((takeNum (((openF b).1).drop ((takeNum ((openF b).1)).2.1))).2.1))), (7, Pp b13 0), (54, .slice A26 (((((openF b).1).length) - ((takeNum ((openF b).1)).2.1)) - ((takeNum (((openF b).1).drop ((takeNum ((openF b).1)).2.1))).2.1)) ((c8 - ((takeNum ((openF b).1)).2.1)) - ((takeNum (((openF b).1).drop ((takeNum ((openF b).1)).2.1))).2.1)))] (by kernel_rfl) ?_
  refine gl_st (st_call rfl rfl rfl (by kernel_rfl) rfl (RTakeBlob_ct _ _ _ (by have h9 := RB.of_win (Win.reads hH 1 rfl hv28 (by omega) (by omega) (by omega)) (by omega); rw [hdt29] at h9; exact h9)) ?_)
  rintro _ w32 ⟨v30, rfl, hF33⟩
  replace hH := hH.call hF33; clear hF33
  obtain ⟨A34, c35, rfl, hl36, hm37⟩ := hH.row_form 3 rfl
  refine gl_ops 7 [(2, Pp b1 0), (4, .slice A26 (((((openF b).1).length) - ((takeNum ((openF b).1)).2.1)) - ((takeNum (((openF b).1).drop ((takeNum ((openF b).1)).2.1))).2.1)) ((c8 - ((takeNum ((openF b).1)).2.1)) - ((takeNum (((openF b).1).drop ((takeNum ((openF b).1)).2.1))).2.1))), (5, Ni ((takeBlob ((openF b).1.drop ((takeNum (openF b).1).2.1 + (takeNum ((openF b).1.drop (takeNum (openF b).1).2.1)).2.1))).2.1)), (6, Ni ((takeBlob ((openF b).1.drop ((takeNum (openF b).1).2.1 + (takeNum ((openF b).1.drop (takeNum (openF b).1).2.1)).2.1))).2.2)), (7, Pp b13 0), (9, .slice A34 (((takeBlob ((openF b).1.drop ((takeNum (openF b).1).2.1 + (takeNum ((openF b).1.drop (takeNum (openF b).1).2.1)).2.1))).1).length) c35)] (by kernel_rfl) ?_
  refine gl_dn rfl ?_
  refine sw_seq ?_
  refine sw_sr ?_
  refine gl_ops 2 [(2, Pp b1 0), (4, .slice A26 (((((openF b).1).length) - ((takeNum ((openF b).1)).2.1)) - ((takeNum (((openF b).1).drop ((takeNum ((openF b).1)).2.1))).2.1)) ((c8 - ((takeNum ((openF b).1)).2.1)) - ((takeNum (((openF b).1).drop ((takeNum ((openF b).1)).2.1))).2.1))), (5, Ni ((takeBlob ((openF b).1.drop ((takeNum (openF b).1).2.1 + (takeNum ((openF b).1.drop (takeNum (openF b).1).2.1)).2.1))).2.1)), (7, Pp b13 0), (9, .slice A34 (((takeBlob ((openF b).1.drop ((takeNum (openF b).1).2.1 + (takeNum ((openF b).1.drop (takeNum (openF b).1).2.1)).2.1))).1).length) c35), (60, .bool ((((takeBlob ((openF b).1.drop ((takeNum (openF b).1).2.1 + (takeNum ((openF b).1.drop (takeNum (openF b).1).2.1)).2.1))).2.2 : Nat) : Int) != (0 : Int)))] (by kernel_rfl) ?_
  refine gl_dn rfl ?_
  refine sw_cond rfl rfl (fun hc6 => ?_) (fun hc6 => ?_)
  ·
    try simp only [bne_iff_ne, ne_eq] at hc6
    refine sw_sr ?_
    refine gl_ops 1 [(2, Pp b1 0), (61, .agg #[.int .i64 0, .int .i64 0, .slice none 0 0, .slice none 0 0])] (by kernel_rfl) ?_
    refine gl_st (st_storeKA (vs := [.int .i64 0, .int .i64 0, .slice none 0 0, .slice none 0 0]) 0 rfl rfl rfl hH rfl rfl (by kernel_rfl) (by kernel_rfl) rfl (by simp) [.int .i64 0, .int .i64 0, .slice none 0 0, .slice none 0 0] rfl ?_)
    clear hH; intro w38 hH
    refine gl_ops 1 [(2, Pp b1 0), (3, .int .i64 91)] (by kernel_rfl) ?_
    refine gl_dn rfl ?_
    refine sw_ret ?_
    refine thR ?_
    refine retC2 rfl (RS.cellA hH 0 (by kernel_rfl) rfl rfl (by kernel_rfl) [.int .i64 0, .int .i64 0, .slice none 0 0, .slice none 0 0] rfl rfl) (RS.tmp rfl) ?_
    have hr : readV b = (Snp.none, 91) := by unfold readV; rw [if_neg (by omega), if_neg (by omega)]; unfold readP; rw [if_neg (fun hh => by omega)]
    exact ⟨_, _, by rw [hr] <;> rfl, (((hH.sublist (List.nil_sublist _)).nilRow 5 1).nilRow 5 1).cast (by rw [hr] <;> rfl) |>.fresh⟩
  try simp only [bne_eq_false_iff_eq] at hc6
  refine sw_skip ?_
  refine sw_next ?_
  refine sw_sr ?_
  refine gl_ops 2 [(2, Pp b1 0), (4, .slice A26 (((((openF b).1).length) - ((takeNum ((openF b).1)).2.1)) - ((takeNum (((openF b).1).drop ((takeNum ((openF b).1)).2.1))).2.1)) ((c8 - ((takeNum ((openF b).1)).2.1)) - ((takeNum (((openF b).1).drop ((takeNum ((openF b).1)).2.1))).2.1))), (5, Ni ((takeBlob ((openF b).1.drop ((takeNum (openF b).1).2.1 + (takeNum ((openF b).1.drop (takeNum (openF b).1).2.1)).2.1))).2.1)), (7, Pp b13 0), (62, .slice A34 (((takeBlob ((openF b).1.drop ((takeNum (openF b).1).2.1 + (takeNum ((openF b).1.drop (takeNum (openF b).1).2.1)).2.1))).1).length) c35), (63, Pp b13 2)] (by kernel_rfl) ?_
  refine gl_st (st_storeK (v := .slice A34 (((takeBlob ((openF b).1.drop ((takeNum (openF b).1).2.1 + (takeNum ((openF b).1.drop (takeNum (openF b).1).2.1)).2.1))).1).length) c35) 2 rfl rfl rfl hH rfl rfl rfl (by kernel_rfl) rfl (by simp) ?_)
  clear hH; intro w39 hH
  refine gl_dn rfl ?_
  refine sw_sr ?_
  refine gl_st (st_buildS0 (e := 5) (m := 1) rfl rfl rfl (by kernel_rfl) (by kernel_rfl) hH ?_)
  clear hH; intro b40 w41 hH
  obtain ⟨A42, hk43, hv44⟩ := hv28.cut ((takeBlob ((openF b).1.drop ((takeNum (openF b).1).2.1 + (takeNum ((openF b).1.drop (takeNum (openF b).1).2.1)).2.1))).2.1) (((((openF b).1).length) - ((takeNum ((openF b).1)).2.1)) - ((takeNum (((openF b).1).drop ((takeNum ((openF b).1)).2.1))).2.1)) ((c8 - ((takeNum ((openF b).1)).2.1)) - ((takeNum (((openF b).1).drop ((takeNum ((openF b).1)).2.1))).2.1)) (by omega) (by omega) (by omega) (by omega)
  refine gl_ops 2 [(2, Pp b1 0), (7, Pp b13 0), (64, .slice (some ⟨b40, 0, none⟩) 0 0), (65, .slice A26 (((((openF b).1).length) - ((takeNum ((openF b).1)).2.1)) - ((takeNum (((openF b).1).drop ((takeNum ((openF b).1)).2.1))).2.1)) ((c8 - ((takeNum ((openF b).1)).2.1)) - ((takeNum (((openF b).1).drop ((takeNum ((openF b).1)).2.1))).2.1))), (66, Ni ((takeBlob ((openF b).1.drop ((takeNum (openF b).1).2.1 + (takeNum ((openF b).1.drop (takeNum (openF b).1).2.1)).2.1))).2.1))] (by kernel_rfl) ?_
  refine gl_q rfl rfl rfl (rd_cut (e := 5) (m := 1) (by kernel_rfl) (by kernel_rfl) rfl (.inr ⟨_, _, rfl, rfl⟩) (.inl ⟨rfl, rfl⟩) hk43) ?_
  have hdt45 : ((openF b).1.drop ((takeNum ((openF b).1)).2.1 + (takeNum (((openF b).1).drop ((takeNum ((openF b).1)).2.1))).2.1 + (takeBlob ((openF b).1.drop ((takeNum (openF b).1).2.1 + (takeNum ((openF b).1.drop (takeNum (openF b).1).2.1)).2.1))).2.1)).take ((((((openF b).1).length) - ((takeNum ((openF b).1)).2.1)) - ((takeNum (((openF b).1).drop ((takeNum ((openF b).1)).2.1))).2.1)) - ((takeBlob ((openF b).1.drop ((takeNum (openF b).1).2.1 + (takeNum ((openF b).1.drop (takeNum (openF b).1).2.1)).2.1))).2.1)) = ((openF b).1.drop ((takeNum (openF b).1).2.1 + (takeNum ((openF b).1.drop (takeNum (openF b).1).2.1)).2.1 + (takeBlob ((openF b).1.drop ((takeNum (openF b).1).2.1 + (takeNum ((openF b).1.drop (takeNum (openF b).1).2.1)).2.1))).2.1)) := by rw [List.take_of_length_le (by rw [List.length_drop]; omega)]
  have hrb46 : RB w41.cell? (.slice A42 ((((((openF b).1).length) - ((takeNum ((openF b).1)).2.1)) - ((takeNum (((openF b).1).drop ((takeNum ((openF b).1)).2.1))).2.1)) - ((takeBlob ((openF b).1.drop ((takeNum (openF b).1).2.1 + (takeNum ((openF b).1.drop (takeNum (openF b).1).2.1)).2.1))).2.1)) (((c8 - ((takeNum ((openF b).1)).2.1)) - ((takeNum (((openF b).1).drop ((takeNum ((openF b).1)).2.1))).2.1)) - ((takeBlob ((openF b).1.drop ((takeNum (openF b).1).2.1 + (takeNum ((openF b).1.drop (takeNum (openF b).1).2.1)).2.1))).2.1))) ((openF b).1.drop ((takeNum (openF b).1).2.1 + (takeNum ((openF b).1.drop (takeNum (openF b).1).2.1)).2.1 + (takeBlob ((openF b).1.drop ((takeNum (openF b).1).2.1 + (takeNum ((openF b).1.drop (takeNum (openF b).1).2.1)).2.1))).2.1)) := (by have h9 := RB.of_win (Win.reads hH 1 rfl hv44 (by omega) (by omega) (by omega)) (by omega); rw [hdt45] at h9; exact h9)
  have hn4 : ((openF b).1.drop ((takeNum (openF b).1).2.1 + (takeNum ((openF b).1.drop (takeNum (openF b).1).2.1)).2.1 + (takeBlob ((openF b).1.drop ((takeNum (openF b).1).2.1 + (takeNum ((openF b).1.drop (takeNum (openF b).1).2.1)).2.1))).2.1)).length ≤ b.length := by rw [List.length_drop]; omega
  refine gl_st (st_appH (e := 5) (zv := .int .u8 0) (m := 1) (bytes := 1) 4 rfl rfl rfl (by kernel_rfl) (by kernel_rfl) rfl (by decide) hH rfl rfl rfl hrb46.row (bv_one _) (by unfold maxLen; omega) (by omega) ?_)
  clear hH; intro v47 w48 hH
  replace hH := hH.row_eq 4 (l' := ((openF b).1.drop ((takeNum (openF b).1).2.1 + (takeNum ((openF b).1.drop (takeNum (openF b).1).2.1)).2.1 + (takeBlob ((openF b).1.drop ((takeNum (openF b).1).2.1 + (takeNum ((openF b).1.drop (takeNum (openF b).1).2.1)).2.1))).2.1)).length) (xs' := bv ((openF b).1.drop ((takeNum (openF b).1).2.1 + (takeNum ((openF b).1.drop (takeNum (openF b).1).2.1)).2.1 + (takeBlob ((openF b).1.drop ((takeNum (openF b).1).2.1 + (takeNum ((openF b).1.drop (takeNum (openF b).1).2.1)).2.1))).2.1))) rfl (Nat.zero_add _) (List.nil_append _)
  obtain ⟨A49, c50, rfl, hl51, hm52⟩ := hH.row_form 4 rfl
  refine gl_ops 1 [(2, Pp b1 0), (7, Pp b13 0), (68, .slice A49 (((openF b).1.drop ((takeNum (openF b).1).2.1 + (takeNum ((openF b).1.drop (takeNum (openF b).1).2.1)).2.1 + (takeBlob ((openF b).1.drop ((takeNum (openF b).1).2.1 + (takeNum ((openF b).1.drop (takeNum (openF b).1).2.1)).2.1))).2.1)).length) c50), (69, Pp b13 3)] (by kernel_rfl) ?_
  refine gl_st (st_storeK (v := .slice A49 (((openF b).1.drop ((takeNum (openF b).1).2.1 + (takeNum ((openF b).1.drop (takeNum (openF b).1).2.1)).2.1 + (takeBlob ((openF b).1.drop ((takeNum (openF b).1).2.1 + (takeNum ((openF b).1.drop (takeNum (openF b).1).2.1)).2.1))).2.1)).length) c50) 2 rfl rfl rfl hH rfl rfl rfl (by kernel_rfl) rfl (by simp) ?_)
  clear hH; intro w53 hH
  refine gl_dn rfl ?_
  refine sw_sr ?_
  refine gl_q rfl rfl rfl (rd_loadKA (m := 4) 2 (by kernel_rfl) hH rfl rfl (by kernel_rfl) [Ni ((takeNum ((openF b).1)).1), Ni ((takeNum (((openF b).1).drop ((takeNum ((openF b).1)).2.1))).1), .slice A34 (((takeBlob ((openF b).1.drop ((takeNum (openF b).1).2.1 + (takeNum ((openF b).1.drop (takeNum (openF b).1).2.1)).2.1))).1).length) c35, .slice A49 (((openF b).1.drop ((takeNum (openF b).1).2.1 + (takeNum ((openF b).1.drop (takeNum (openF b).1).2.1)).2.1 + (takeBlob ((openF b).1.drop ((takeNum (openF b).1).2.1 + (takeNum ((openF b).1.drop (takeNum (openF b).1).2.1)).2.1))).2.1)).length) c50] rfl rfl) ?_
  refine gl_st (st_storeKA (vs := [Ni ((takeNum ((openF b).1)).1), Ni ((takeNum (((openF b).1).drop ((takeNum ((openF b).1)).2.1))).1), .slice A34 (((takeBlob ((openF b).1.drop ((takeNum (openF b).1).2.1 + (takeNum ((openF b).1.drop (takeNum (openF b).1).2.1)).2.1))).1).length) c35, .slice A49 (((openF b).1.drop ((takeNum (openF b).1).2.1 + (takeNum ((openF b).1.drop (takeNum (openF b).1).2.1)).2.1 + (takeBlob ((openF b).1.drop ((takeNum (openF b).1).2.1 + (takeNum ((openF b).1.drop (takeNum (openF b).1).2.1)).2.1))).2.1)).length) c50]) 0 rfl rfl rfl hH rfl rfl (by kernel_rfl) (by kernel_rfl) rfl (by simp) [Ni ((takeNum ((openF b).1)).1), Ni ((takeNum (((openF b).1).drop ((takeNum ((openF b).1)).2.1))).1), .slice A34 (((takeBlob ((openF b).1.drop ((takeNum (openF b).1).2.1 + (takeNum ((openF b).1.drop (takeNum (openF b).1).2.1)).2.1))).1).length) c35, .slice A49 (((openF b).1.drop ((takeNum (openF b).1).2.1 + (takeNum ((openF b).1.drop (takeNum (openF b).1).2.1)).2.1 + (takeBlob ((openF b).1.drop ((takeNum (openF b).1).2.1 + (takeNum ((openF b).1.drop (takeNum (openF b).1).2.1)).2.1))).2.1)).length) c50] rfl ?_)
  clear hH; intro w54 hH
  refine gl_ops 1 [(2, Pp b1 0), (3, .int .i64 0)] (by kernel_rfl) ?_
  refine gl_dn rfl ?_
  refine sw_ret ?_
  refine retC2 rfl (RS.cellA hH 0 (by kernel_rfl) rfl rfl (by kernel_rfl) [Ni ((takeNum ((openF b).1)).1), Ni ((takeNum (((openF b).1).drop ((takeNum ((openF b).1)).2.1))).1), .slice A34 (((takeBlob ((openF b).1.drop ((takeNum (openF b).1).2.1 + (takeNum ((openF b).1.drop (takeNum (openF b).1).2.1)).2.1))).1).length) c35, .slice A49 (((openF b).1.drop ((takeNum (openF b).1).2.1 + (takeNum ((openF b).1.drop (takeNum (openF b).1).2.1)).2.1 + (takeBlob ((openF b).1.drop ((takeNum (openF b).1).2.1 + (takeNum ((openF b).1.drop (takeNum (openF b).1).2.1)).2.1))).2.1)).length) c50] rfl rfl) (RS.tmp rfl) ?_
  have hr := readV_ok (b := b) (by omega) (by omega) (by omega) (by omega) (by omega)
  exact ⟨_, _, by rw [hr] <;> rfl, ((hH.sublist (.cons _ (.cons _ (.cons _ (.cons_cons _ (.cons_cons _ (List.nil_sublist _))))))).cast (by rw [hr] <;> rfl)).fresh⟩
end Go.Proofs.YtjcchjgkkplamaaGreatDoor
