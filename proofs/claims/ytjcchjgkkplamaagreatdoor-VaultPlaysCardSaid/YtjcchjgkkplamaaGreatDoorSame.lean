/- Layer 20: the document's Same: are two snapshots alike? What it answers. -/
import Derived.Test.YtjcchjgkkplamaaGreatDoorWire
import Derived.Test.YtjcchjgkkplamaaGreatDoorCalc
set_option maxRecDepth 100000
set_option maxHeartbeats 2000000
set_option linter.unusedVariables false
set_option linter.unusedSimpArgs false
namespace Go.Proofs.YtjcchjgkkplamaaGreatDoor
open Go.RowKit Go.SW
def sameS (i t : Int) (cf dt : List UInt8) (i2 t2 : Int) (cf2 dt2 : List UInt8) : Bool := i == i2 && t == t2 && cf == cf2 && dt == dt2
theorem sameS_refl (i t : Int) (cf dt : List UInt8) : sameS i t cf dt i t cf dt = true := by simp [sameS]

theorem Same_ct (i t i2 t2 : Int) (vc vd vc2 vd2 : Value) (cf dt cf2 dt2 : List UInt8) (w : World) (kc : RB w.cell? vc cf) (kd : RB w.cell? vd dt) (kcb : RB w.cell? vc2 cf2) (kdb : RB w.cell? vd2 dt2) :
    Fun Tryz.prog 10 [.agg #[.int .i64 i, .int .i64 t, vc, vd], .agg #[.int .i64 i2, .int .i64 t2, vc2, vd2]] w fun v w' => v = .bool (sameS i t cf dt i2 t2 cf2 dt2) ∧ Fresh w w' [] := by
  obtain ⟨Ac, cc, rfl, kc1, kc2⟩ := kc.row.form
  obtain ⟨Ad, cd, rfl, kd1, kd2⟩ := kd.row.form
  obtain ⟨Ac2, cc2, rfl, kcb1, kcb2⟩ := kcb.row.form
  obtain ⟨Ad2, cd2, rfl, kdb1, kdb2⟩ := kdb.row.form
  refine fun_of_sw Tryz.func10 rfl 35 rfl rfl ?_
  have hH := Hp.start w
  refine sw_sr ?_
  refine gl_st (st_boxH (cs := [.int .i64 i, .int .i64 t, .slice Ac cf.length cc, .slice Ad dt.length cd]) rfl rfl rfl rfl hH ?_)
  clear hH; intro b1 w2 hH
  refine gl_st (st_boxH (cs := [.int .i64 i2, .int .i64 t2, .slice Ac2 cf2.length cc2, .slice Ad2 dt2.length cd2]) rfl rfl rfl rfl hH ?_)
  clear hH; intro b3 w4 hH
  refine gl_ops 1 [(2, Pp b1 0), (3, Pp b3 0)] (by kernel_rfl) ?_
  refine gl_dn rfl ?_
  refine sw_sr ?_
  refine gl_ops 1 [(2, Pp b1 0), (3, Pp b3 0), (5, Pp b1 0)] (by kernel_rfl) ?_
  refine gl_q rfl rfl rfl (rd_loadK 0 (by kernel_rfl) hH rfl rfl rfl) ?_
  refine gl_ops 1 [(2, Pp b1 0), (3, Pp b3 0), (6, .int .i64 i), (7, Pp b3 0)] (by kernel_rfl) ?_
  refine gl_q rfl rfl rfl (rd_loadK 1 (by kernel_rfl) hH rfl rfl rfl) ?_
  refine gl_ops 2 [(2, Pp b1 0), (3, Pp b3 0), (10, .bool ((i : Int) == (i2 : Int)))] (by kernel_rfl) ?_
  refine gl_split 10 (b := (i : Int) == (i2 : Int)) rfl (fun hg1 => ?_) (fun hg1 => ?_)
  ·
    try simp only [beq_iff_eq] at hg1
    refine gl_ops 1 [(2, Pp b1 0), (3, Pp b3 0), (10, .bool true), (11, Pp b1 1)] (by kernel_rfl) ?_
    refine gl_q rfl rfl rfl (rd_loadK 0 (by kernel_rfl) hH rfl rfl rfl) ?_
    refine gl_ops 1 [(2, Pp b1 0), (3, Pp b3 0), (10, .bool true), (12, .int .i64 t), (13, Pp b3 1)] (by kernel_rfl) ?_
    refine gl_q rfl rfl rfl (rd_loadK 1 (by kernel_rfl) hH rfl rfl rfl) ?_
    refine gl_ops 3 [(2, Pp b1 0), (3, Pp b3 0), (17, .bool ((t : Int) == (t2 : Int)))] (by kernel_rfl) ?_
    refine gl_split 17 (b := (t : Int) == (t2 : Int)) rfl (fun hg2 => ?_) (fun hg2 => ?_)
    ·
      try simp only [beq_iff_eq] at hg2
      refine gl_ops 1 [(2, Pp b1 0), (3, Pp b3 0), (17, .bool true), (18, Pp b1 2)] (by kernel_rfl) ?_
      refine gl_q rfl rfl rfl (rd_loadK 0 (by kernel_rfl) hH rfl rfl rfl) ?_
      refine gl_q rfl rfl rfl (rd_str (e := 5) (by kernel_rfl) (by kernel_rfl) (by kernel_rfl) rfl (kc.mono hH.zin)) ?_
      refine gl_ops 1 [(2, Pp b1 0), (3, Pp b3 0), (17, .bool true), (20, .string (bs cf)), (21, Pp b3 2)] (by kernel_rfl) ?_
      refine gl_q rfl rfl rfl (rd_loadK 1 (by kernel_rfl) hH rfl rfl rfl) ?_
      refine gl_q rfl rfl rfl (rd_str (e := 5) (by kernel_rfl) (by kernel_rfl) (by kernel_rfl) rfl (kcb.mono hH.zin)) ?_
      refine gl_q rfl rfl rfl (rd_seql (by kernel_rfl) rfl rfl) ?_
      refine gl_ops 2 [(2, Pp b1 0), (3, Pp b3 0), (26, .bool (cf == cf2))] (by kernel_rfl) ?_
      refine gl_split 26 (b := cf == cf2) rfl (fun hg3 => ?_) (fun hg3 => ?_)
      ·
        try simp only [beq_iff_eq] at hg3
        refine gl_ops 1 [(3, Pp b3 0), (26, .bool true), (27, Pp b1 3)] (by kernel_rfl) ?_
        refine gl_q rfl rfl rfl (rd_loadK 0 (by kernel_rfl) hH rfl rfl rfl) ?_
        refine gl_q rfl rfl rfl (rd_str (e := 5) (by kernel_rfl) (by kernel_rfl) (by kernel_rfl) rfl (kd.mono hH.zin)) ?_
        refine gl_ops 1 [(26, .bool true), (29, .string (bs dt)), (30, Pp b3 3)] (by kernel_rfl) ?_
        refine gl_q rfl rfl rfl (rd_loadK 1 (by kernel_rfl) hH rfl rfl rfl) ?_
        refine gl_q rfl rfl rfl (rd_str (e := 5) (by kernel_rfl) (by kernel_rfl) (by kernel_rfl) rfl (kdb.mono hH.zin)) ?_
        refine gl_q rfl rfl rfl (rd_seql (by kernel_rfl) rfl rfl) ?_
        refine gl_ops 2 [(4, .bool (dt == dt2))] (by kernel_rfl) ?_
        refine gl_dn rfl ?_
        refine sw_ret ?_
        refine ret1 rfl rfl  ?_
        exact ⟨by unfold sameS; rw [show (i == i2) = true from by simpa using hg1, show (t == t2) = true from by simpa using hg2, show (cf == cf2) = true from by simpa using hg3]; simp, (hH.sublist (List.nil_sublist _)).fresh⟩
      try simp only [beq_eq_false_iff_ne, ne_eq] at hg3
      refine gl_ops 9 [(4, .bool false)] (by kernel_rfl) ?_
      refine gl_dn rfl ?_
      refine sw_ret ?_
      refine ret1 rfl rfl  ?_
      exact ⟨by unfold sameS; rw [show (i == i2) = true from by simpa using hg1, show (t == t2) = true from by simpa using hg2, show (cf == cf2) = false from by simpa using hg3]; simp, (hH.sublist (List.nil_sublist _)).fresh⟩
    try simp only [beq_eq_false_iff_ne, ne_eq] at hg2
    refine gl_ops 18 [(4, .bool false)] (by kernel_rfl) ?_
    refine gl_dn rfl ?_
    refine sw_ret ?_
    refine ret1 rfl rfl  ?_
    exact ⟨by unfold sameS; rw [show (i == i2) = true from by simpa using hg1, show (t == t2) = false from by simpa using hg2]; simp, (hH.sublist (List.nil_sublist _)).fresh⟩
  try simp only [beq_eq_false_iff_ne, ne_eq] at hg1
  refine gl_ops 25 [(4, .bool false)] (by kernel_rfl) ?_
  refine gl_dn rfl ?_
  refine sw_ret ?_
  refine ret1 rfl rfl  ?_
  exact ⟨by unfold sameS; rw [show (i == i2) = false from by simpa using hg1]; simp, (hH.sublist (List.nil_sublist _)).fresh⟩
end Go.Proofs.YtjcchjgkkplamaaGreatDoor
