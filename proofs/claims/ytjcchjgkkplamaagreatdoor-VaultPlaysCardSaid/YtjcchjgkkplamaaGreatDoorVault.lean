/- Layer 20 (vault): snapshots in bytes and back: what its functions answer. -/
import Derived.Test.YtjcchjgkkplamaaGreatDoorWire
import Derived.Test.YtjcchjgkkplamaaGreatDoorAs
import Derived.Test.YtjcchjgkkplamaaGreatDoorVaultP
import Derived.Test.YtjcchjgkkplamaaGreatDoorChunk1
set_option maxRecDepth 100000
set_option maxHeartbeats 2000000
set_option linter.unusedVariables false
set_option linter.unusedSimpArgs false
namespace Go.Proofs.YtjcchjgkkplamaaGreatDoor
open Go.RowKit Go.SW

theorem Clone_ct (vb : Value) (b : List UInt8) (w : World) (hb : RB w.cell? vb b) (hl : b.length ≤ 140737488355328) :
    Fun Tryz.prog 51 [vb] w fun v w' => ∃ v1, v = v1 ∧ Fresh w w' [.row v1 5 1 b.length (bv b)] := by
  obtain ⟨Ab, cb, rfl, hb1, hb2⟩ := hb.row.form
  refine fun_of_sw Tryz.func51 rfl 8 rfl rfl ?_
  have hH := Hp.start w
  refine sw_sr ?_
  refine gl_ops 1 [(0, .slice Ab b.length cb)] (by kernel_rfl) ?_
  refine gl_dn rfl ?_
  refine sw_seq ?_
  refine sw_sr ?_
  refine gl_ops 1 [(0, .slice Ab b.length cb), (3, .slice Ab b.length cb)] (by kernel_rfl) ?_
  refine gl_q rfl rfl rfl (rd_snil_eql (e := 5) (by kernel_rfl) rfl rfl) ?_
  refine gl_dn rfl ?_
  refine sw_cond rfl rfl (fun hc1 => ?_) (fun hc1 => ?_)
  ·
    obtain rfl : Ab = none := by simpa using hc1
    have hb0 := hb.none
    refine sw_sr ?_
    refine gl_ops 1 [(2, .slice none 0 0)] (by kernel_rfl) ?_
    refine gl_dn rfl ?_
    refine sw_ret ?_
    refine thR ?_
    refine ret1 rfl rfl  ?_
    exact ⟨_, rfl, ((hH.nilRow 5 1).cast (by rw [hb0]; rfl)).fresh⟩
  refine sw_skip ?_
  refine sw_next ?_
  refine sw_sr ?_
  refine gl_st (st_buildS0 (e := 5) (m := 1) rfl rfl rfl (by kernel_rfl) (by kernel_rfl) hH ?_)
  clear hH; intro b1 w2 hH
  refine gl_ops 1 [(5, .slice (some ⟨b1, 0, none⟩) 0 0), (6, .slice Ab b.length cb)] (by kernel_rfl) ?_
  refine gl_st (st_appH (e := 5) (zv := .int .u8 0) (m := 1) (bytes := 1) 0 rfl rfl rfl (by kernel_rfl) (by kernel_rfl) rfl (by decide) hH rfl rfl rfl (hb.row.mono hH.zin) (bv_one _) (by unfold maxLen; omega) (by omega) ?_)
  clear hH; intro v3 w4 hH
  replace hH := hH.row_eq 0 (l' := b.length) (xs' := bv b) rfl (Nat.zero_add _) (List.nil_append _)
  obtain ⟨A5, c6, rfl, hl7, hm8⟩ := hH.row_form 0 rfl
  refine gl_ops 1 [(2, .slice A5 b.length c6)] (by kernel_rfl) ?_
  refine gl_dn rfl ?_
  refine sw_ret ?_
  refine ret1 rfl rfl  ?_
  exact ⟨_, rfl, hH.fresh⟩
theorem Grow0_ct (n : Nat) (w : World) (hn : n ≤ 281474976710656) :
    Fun Tryz.prog 85 [.slice none 0 0, .int .i64 n] w fun v w' => ∃ A c, n ≤ c ∧ v = .slice A 0 c ∧ Fresh w w' [.row (.slice A 0 c) 5 1 0 []] := by
  refine fun_of_sw Tryz.func85 rfl 27 rfl rfl ?_
  have hH := Hp.start w
  refine sw_sr ?_
  refine gl_ops 1 [(0, .slice none 0 0), (1, Ni n)] (by kernel_rfl) ?_
  refine gl_dn rfl ?_
  refine sw_seq ?_
  refine sw_sr ?_
  refine gl_ops 2 [(0, .slice none 0 0), (1, Ni n), (6, .bool (decide (((n : Nat) : Int) < (0 : Int))))] (by kernel_rfl) ?_
  refine gl_dn rfl ?_
  refine sw_cond rfl rfl (fun hc1 => ?_) (fun hc1 => ?_)
  · exact absurd hc1 (by simp only [decide_eq_true_eq, beq_iff_eq, bne_iff_ne, ne_eq]; omega)
  clear hc1
  refine sw_skip ?_
  refine sw_next ?_
  refine sw_seq ?_
  refine sw_sr ?_
  refine gl_ops 6 [(0, .slice none 0 0), (8, Ni n), (13, .int .i64 (IntKind.i64.wrap (0 - 0)))] (by kernel_rfl) ?_
  refine gl_cv 13 (.int .i64 0) (cv_i64 (by omega)) rfl ?_
  refine gl_ops 1 [(0, .slice none 0 0), (14, .int .i64 (IntKind.i64.wrap (((n : Nat) : Int) - 0)))] (by kernel_rfl) ?_
  refine gl_cv 14 (Ni n) (cv_i64 (by omega)) rfl ?_
  refine gl_ops 1 [(0, .slice none 0 0), (1, Ni n)] (by kernel_rfl) ?_
  refine gl_dn rfl ?_
  refine sw_sr ?_
  refine gl_ops 2 [(0, .slice none 0 0), (1, Ni n), (16, .bool (decide (((n : Nat) : Int) > (0 : Int))))] (by kernel_rfl) ?_
  refine gl_dn rfl ?_
  refine sw_cond rfl rfl (fun hc2 => ?_) (fun hc2 => ?_)
  ·
    try simp only [decide_eq_true_eq] at hc2
    refine sw_region ?_
    refine gl_ops 5 [(0, .slice none 0 0), (20, .slice none 0 0), (21, Ni n)] (by kernel_rfl) ?_
    refine gl_st (st_appZ (e := 5) (kn := .i64) (zv := .int .u8 0) (bytes := 1) rfl rfl rfl (by kernel_rfl) (by kernel_rfl) (by kernel_rfl) rfl hH rfl (q := n) rfl (by omega) (by unfold maxLen; omega) (by omega) ?_)
    clear hH; intro b1 c3 w2 hl4 hm5 hH
    refine gl_ops 2 [(22, .slice (some ⟨b1, 0, none⟩) n c3), (24, .int .i64 0)] (by kernel_rfl) ?_
    refine gl_q rfl rfl rfl (rd_cut (e := 5) (m := 1) (by kernel_rfl) (by kernel_rfl) rfl (.inl ⟨rfl, rfl⟩) (.inr ⟨_, _, rfl, rfl⟩) (cut_front (Nat.zero_le _) hl4)) ?_
    replace hH := hH.row_shrink 0 rfl (Nat.zero_le _)
    refine gl_ops 1 [(0, .slice (some ⟨b1, 0, none⟩) 0 c3)] (by kernel_rfl) ?_
    refine gl_done rfl ?_
    refine sw_next ?_
    refine sw_sr ?_
    refine gl_ops 2 [(4, .slice (some ⟨b1, 0, none⟩) 0 c3)] (by kernel_rfl) ?_
    refine gl_dn rfl ?_
    refine sw_ret ?_
    refine ret1 rfl rfl  ?_
    exact ⟨_, _, hl4, rfl, hH.fresh⟩
  try simp only [decide_eq_false_iff_not, Int.not_lt, Int.not_le] at hc2
  refine sw_skip ?_
  refine sw_next ?_
  refine sw_sr ?_
  refine gl_ops 2 [(4, .slice none 0 0)] (by kernel_rfl) ?_
  refine gl_dn rfl ?_
  refine sw_ret ?_
  refine ret1 rfl rfl  ?_
  exact ⟨none, 0, by omega, rfl, (hH.nilRow 5 1).fresh⟩
theorem Concat3_ct (A : Option Addr) (c : Nat) (A1 A2 A3 : Option Addr) (c1 c2 c3 : Nat) (l1 l2 l3 : List UInt8) (w : World) (hR : Row w.cell? (.slice A 3 c) 1 3 [.slice A1 l1.length c1, .slice A2 l2.length c2, .slice A3 l3.length c3])
    (h1 : RB w.cell? (.slice A1 l1.length c1) l1) (h2 : RB w.cell? (.slice A2 l2.length c2) l2) (h3 : RB w.cell? (.slice A3 l3.length c3) l3) (hs : l1.length + l2.length + l3.length ≤ 281474976710656) :
    Fun Tryz.prog 57 [.slice A 3 c] w fun v w' => ∃ v1, v = v1 ∧ Fresh w w' [.row v1 5 1 (l1 ++ l2 ++ l3).length (bv (l1 ++ l2 ++ l3))] := by
  refine fun_of_sw Tryz.func57 rfl 36 rfl rfl ?_
  have hH := Hp.start w
  refine sw_sr ?_
  refine gl_ops 1 [(0, .slice A 3 c)] (by kernel_rfl) ?_
  refine gl_dn rfl ?_
  refine sw_sr ?_
  refine gl_ops 1 [(0, .slice A 3 c), (3, .int .i64 0)] (by kernel_rfl) ?_
  refine gl_dn rfl ?_
  refine sw_seq ?_
  refine sw_sr ?_
  refine gl_ops 1 [(0, .slice A 3 c), (3, .int .i64 0), (9, .slice A 3 c)] (by kernel_rfl) ?_
  refine gl_q rfl rfl rfl (rd_len (e := 22) (by kernel_rfl) rfl) ?_
  refine gl_ops 1 [(0, .slice A 3 c), (3, .int .i64 0), (9, .slice A 3 c), (10, .int .i64 3), (11, .int .i64 0)] (by kernel_rfl) ?_
  refine gl_dn rfl ?_
  refine sw_block ?_
  refine sw_unroll ?_
  refine sw_sr ?_
  refine gl_ops 1 [(0, .slice A 3 c), (3, .int .i64 0), (9, .slice A 3 c), (10, .int .i64 3), (11, .int .i64 0), (12, .bool true)] (by kernel_rfl) ?_
  refine gl_dn rfl ?_
  refine sw_seq ?_
  refine sw_true rfl rfl ?_
  refine sw_skip ?_
  refine sw_next ?_
  refine sw_seq ?_
  refine sw_block ?_
  refine sw_sr ?_
  obtain ⟨p1, hi3, hp2⟩ := hR.idx 0 (by omega) (by decide)
  refine gl_q rfl rfl rfl (rd_idx (e := 22) (m := 1) (by kernel_rfl) (by kernel_rfl) rfl rfl hi3) ?_
  refine gl_q rfl rfl rfl (rd_load (by kernel_rfl) rfl (hH.zin _ _ (hp2 0 _ (by decide) rfl))) ?_
  refine gl_ops 1 [(0, .slice A 3 c), (3, .int .i64 0), (5, .slice A1 l1.length c1), (9, .slice A 3 c), (10, .int .i64 3), (11, .int .i64 0)] (by kernel_rfl) ?_
  refine gl_dn rfl ?_
  refine sw_sr ?_
  refine gl_ops 2 [(0, .slice A 3 c), (9, .slice A 3 c), (10, .int .i64 3), (11, .int .i64 0), (15, .int .i64 0), (16, .slice A1 l1.length c1)] (by kernel_rfl) ?_
  refine gl_q rfl rfl rfl (rd_len (e := 5) (by kernel_rfl) rfl) ?_
  refine gl_ops 1 [(0, .slice A 3 c), (9, .slice A 3 c), (10, .int .i64 3), (11, .int .i64 0), (18, .int .i64 (IntKind.i64.wrap (0 + ((l1.length : Nat) : Int))))] (by kernel_rfl) ?_
  refine gl_cv 18 (Ni (0 + l1.length)) (cv_i64 (by omega)) rfl ?_
  refine gl_ops 1 [(0, .slice A 3 c), (3, Ni (0 + l1.length)), (9, .slice A 3 c), (10, .int .i64 3), (11, .int .i64 0)] (by kernel_rfl) ?_
  refine gl_dn rfl ?_
  refine sw_sr ?_
  refine gl_ops 2 [(0, .slice A 3 c), (3, Ni (0 + l1.length)), (9, .slice A 3 c), (10, .int .i64 3), (11, .int .i64 0), (20, .bool (decide (((0 + l1.length : Nat) : Int) < (0 : Int))))] (by kernel_rfl) ?_
  refine gl_dn rfl ?_
  refine sw_cond rfl rfl (fun hc2 => ?_) (fun hc2 => ?_)
  · exact absurd hc2 (by simp only [decide_eq_true_eq, beq_iff_eq, bne_iff_ne, ne_eq]; omega)
  clear hc2
  refine sw_skip ?_
  refine bkN ?_
  refine sw_next ?_
  refine sw_region ?_
  refine gl_ops 1 [(0, .slice A 3 c), (3, Ni (0 + l1.length)), (9, .slice A 3 c), (10, .int .i64 3), (22, .int .i64 (IntKind.i64.wrap (0 + 1)))] (by kernel_rfl) ?_
  refine gl_cv 22 (.int .i64 1) (cv_i64 (by omega)) rfl ?_
  refine gl_ops 1 [(0, .slice A 3 c), (3, Ni (0 + l1.length)), (9, .slice A 3 c), (10, .int .i64 3), (11, .int .i64 1)] (by kernel_rfl) ?_
  refine gl_done rfl ?_
  refine sw_again ?_
  refine sw_keep [(0, .slice A 3 c), (3, Ni (0 + l1.length)), (9, .slice A 3 c), (10, .int .i64 3), (11, .int .i64 1)] (by kernel_rfl) ?_
  refine sw_sr ?_
  refine gl_ops 1 [(0, .slice A 3 c), (3, Ni (0 + l1.length)), (9, .slice A 3 c), (10, .int .i64 3), (11, .int .i64 1), (12, .bool true)] (by kernel_rfl) ?_
  refine gl_dn rfl ?_
  refine sw_seq ?_
  refine sw_true rfl rfl ?_
  refine sw_skip ?_
  refine sw_next ?_
  refine sw_seq ?_
  refine sw_block ?_
  refine sw_sr ?_
  obtain ⟨p4, hi6, hp5⟩ := hR.idx 1 (by omega) (by decide)
  refine gl_q rfl rfl rfl (rd_idx (e := 22) (m := 1) (by kernel_rfl) (by kernel_rfl) rfl rfl hi6) ?_
  refine gl_q rfl rfl rfl (rd_load (by kernel_rfl) rfl (hH.zin _ _ (hp5 0 _ (by decide) rfl))) ?_
  refine gl_ops 1 [(0, .slice A 3 c), (3, Ni (0 + l1.length)), (5, .slice A2 l2.length c2), (9, .slice A 3 c), (10, .int .i64 3), (11, .int .i64 1)] (by kernel_rfl) ?_
  refine gl_dn rfl ?_
  refine sw_sr ?_
  refine gl_ops 2 [(0, .slice A 3 c), (9, .slice A 3 c), (10, .int .i64 3), (11, .int .i64 1), (15, Ni (0 + l1.length)), (16, .slice A2 l2.length c2)] (by kernel_rfl) ?_
  refine gl_q rfl rfl rfl (rd_len (e := 5) (by kernel_rfl) rfl) ?_
  refine gl_ops 1 [(0, .slice A 3 c), (9, .slice A 3 c), (10, .int .i64 3), (11, .int .i64 1), (18, .int .i64 (IntKind.i64.wrap (((0 + l1.length : Nat) : Int) + ((l2.length : Nat) : Int))))] (by kernel_rfl) ?_
  refine gl_cv 18 (Ni ((0 + l1.length) + l2.length)) (cv_i64 (by omega)) rfl ?_
  refine gl_ops 1 [(0, .slice A 3 c), (3, Ni ((0 + l1.length) + l2.length)), (9, .slice A 3 c), (10, .int .i64 3), (11, .int .i64 1)] (by kernel_rfl) ?_
  refine gl_dn rfl ?_
  refine sw_sr ?_
  refine gl_ops 2 [(0, .slice A 3 c), (3, Ni ((0 + l1.length) + l2.length)), (9, .slice A 3 c), (10, .int .i64 3), (11, .int .i64 1), (20, .bool (decide ((((0 + l1.length) + l2.length : Nat) : Int) < (0 : Int))))] (by kernel_rfl) ?_
  refine gl_dn rfl ?_
  refine sw_cond rfl rfl (fun hc4 => ?_) (fun hc4 => ?_)
  · exact absurd hc4 (by simp only [decide_eq_true_eq, beq_iff_eq, bne_iff_ne, ne_eq]; omega)
  clear hc4
  refine sw_skip ?_
  refine bkN ?_
  refine sw_next ?_
  refine sw_region ?_
  refine gl_ops 1 [(0, .slice A 3 c), (3, Ni ((0 + l1.length) + l2.length)), (9, .slice A 3 c), (10, .int .i64 3), (22, .int .i64 (IntKind.i64.wrap (1 + 1)))] (by kernel_rfl) ?_
  refine gl_cv 22 (.int .i64 2) (cv_i64 (by omega)) rfl ?_
  refine gl_ops 1 [(0, .slice A 3 c), (3, Ni ((0 + l1.length) + l2.length)), (9, .slice A 3 c), (10, .int .i64 3), (11, .int .i64 2)] (by kernel_rfl) ?_
  refine gl_done rfl ?_
  refine sw_again ?_
  refine sw_keep [(0, .slice A 3 c), (3, Ni ((0 + l1.length) + l2.length)), (9, .slice A 3 c), (10, .int .i64 3), (11, .int .i64 2)] (by kernel_rfl) ?_
  refine sw_sr ?_
  refine gl_ops 1 [(0, .slice A 3 c), (3, Ni ((0 + l1.length) + l2.length)), (9, .slice A 3 c), (10, .int .i64 3), (11, .int .i64 2), (12, .bool true)] (by kernel_rfl) ?_
  refine gl_dn rfl ?_
  refine sw_seq ?_
  refine sw_true rfl rfl ?_
  refine sw_skip ?_
  refine sw_next ?_
  refine sw_seq ?_
  refine sw_block ?_
  refine sw_sr ?_
  obtain ⟨p7, hi9, hp8⟩ := hR.idx 2 (by omega) (by decide)
  refine gl_q rfl rfl rfl (rd_idx (e := 22) (m := 1) (by kernel_rfl) (by kernel_rfl) rfl rfl hi9) ?_
  refine gl_q rfl rfl rfl (rd_load (by kernel_rfl) rfl (hH.zin _ _ (hp8 0 _ (by decide) rfl))) ?_
  refine gl_ops 1 [(0, .slice A 3 c), (3, Ni ((0 + l1.length) + l2.length)), (5, .slice A3 l3.length c3), (9, .slice A 3 c), (10, .int .i64 3), (11, .int .i64 2)] (by kernel_rfl) ?_
  refine gl_dn rfl ?_
  refine sw_sr ?_
  refine gl_ops 2 [(0, .slice A 3 c), (9, .slice A 3 c), (10, .int .i64 3), (11, .int .i64 2), (15, Ni ((0 + l1.length) + l2.length)), (16, .slice A3 l3.length c3)] (by kernel_rfl) ?_
  refine gl_q rfl rfl rfl (rd_len (e := 5) (by kernel_rfl) rfl) ?_
  refine gl_ops 1 [(0, .slice A 3 c), (9, .slice A 3 c), (10, .int .i64 3), (11, .int .i64 2), (18, .int .i64 (IntKind.i64.wrap ((((0 + l1.length) + l2.length : Nat) : Int) + ((l3.length : Nat) : Int))))] (by kernel_rfl) ?_
  refine gl_cv 18 (Ni (((0 + l1.length) + l2.length) + l3.length)) (cv_i64 (by omega)) rfl ?_
  refine gl_ops 1 [(0, .slice A 3 c), (3, Ni (((0 + l1.length) + l2.length) + l3.length)), (9, .slice A 3 c), (10, .int .i64 3), (11, .int .i64 2)] (by kernel_rfl) ?_
  refine gl_dn rfl ?_
  refine sw_sr ?_
  refine gl_ops 2 [(0, .slice A 3 c), (3, Ni (((0 + l1.length) + l2.length) + l3.length)), (9, .slice A 3 c), (10, .int .i64 3), (11, .int .i64 2), (20, .bool (decide (((((0 + l1.length) + l2.length) + l3.length : Nat) : Int) < (0 : Int))))] (by kernel_rfl) ?_
  refine gl_dn rfl ?_
  refine sw_cond rfl rfl (fun hc6 => ?_) (fun hc6 => ?_)
  · exact absurd hc6 (by simp only [decide_eq_true_eq, beq_iff_eq, bne_iff_ne, ne_eq]; omega)
  clear hc6
  refine sw_skip ?_
  refine bkN ?_
  refine sw_next ?_
  refine sw_region ?_
  refine gl_ops 1 [(0, .slice A 3 c), (3, Ni (((0 + l1.length) + l2.length) + l3.length)), (9, .slice A 3 c), (10, .int .i64 3), (22, .int .i64 (IntKind.i64.wrap (2 + 1)))] (by kernel_rfl) ?_
  refine gl_cv 22 (.int .i64 3) (cv_i64 (by omega)) rfl ?_
  refine gl_ops 1 [(0, .slice A 3 c), (3, Ni (((0 + l1.length) + l2.length) + l3.length)), (9, .slice A 3 c), (10, .int .i64 3), (11, .int .i64 3)] (by kernel_rfl) ?_
  refine gl_done rfl ?_
  refine sw_again ?_
  refine sw_keep [(0, .slice A 3 c), (3, Ni (((0 + l1.length) + l2.length) + l3.length)), (9, .slice A 3 c), (10, .int .i64 3), (11, .int .i64 3)] (by kernel_rfl) ?_
  refine sw_sr ?_
  refine gl_ops 1 [(0, .slice A 3 c), (3, Ni (((0 + l1.length) + l2.length) + l3.length)), (9, .slice A 3 c), (10, .int .i64 3), (11, .int .i64 3), (12, .bool false)] (by kernel_rfl) ?_
  refine gl_dn rfl ?_
  refine sw_seq ?_
  refine sw_false rfl rfl ?_
  refine sw_exit ?_
  refine thX ?_
  refine thX ?_
  refine bkH ?_
  refine sw_next ?_
  refine sw_sr ?_
  refine gl_ops 1 [(0, .slice A 3 c), (23, Ni (((0 + l1.length) + l2.length) + l3.length))] (by kernel_rfl) ?_
  refine gl_st (st_call rfl rfl rfl (by kernel_rfl) rfl (Grow0_ct (((0 + l1.length) + l2.length) + l3.length) _ (by omega)) ?_)
  rintro _ w14 ⟨A10, c11, hcap12, rfl, hF15⟩
  replace hH := hH.call hF15; clear hF15
  refine gl_ops 1 [(0, .slice A 3 c), (6, .slice A10 0 c11)] (by kernel_rfl) ?_
  refine gl_dn rfl ?_
  refine sw_seq ?_
  refine sw_sr ?_
  refine gl_ops 1 [(6, .slice A10 0 c11), (25, .slice A 3 c)] (by kernel_rfl) ?_
  refine gl_q rfl rfl rfl (rd_len (e := 22) (by kernel_rfl) rfl) ?_
  refine gl_ops 1 [(6, .slice A10 0 c11), (25, .slice A 3 c), (26, .int .i64 3), (27, .int .i64 0)] (by kernel_rfl) ?_
  refine gl_dn rfl ?_
  refine sw_block ?_
  refine sw_unroll ?_
  refine sw_sr ?_
  refine gl_ops 1 [(6, .slice A10 0 c11), (25, .slice A 3 c), (26, .int .i64 3), (27, .int .i64 0), (28, .bool true)] (by kernel_rfl) ?_
  refine gl_dn rfl ?_
  refine sw_seq ?_
  refine sw_true rfl rfl ?_
  refine sw_skip ?_
  refine sw_next ?_
  refine sw_seq ?_
  refine sw_block ?_
  refine sw_sr ?_
  obtain ⟨p16, hi18, hp17⟩ := hR.idx 0 (by omega) (by decide)
  refine gl_q rfl rfl rfl (rd_idx (e := 22) (m := 1) (by kernel_rfl) (by kernel_rfl) rfl rfl hi18) ?_
  refine gl_q rfl rfl rfl (rd_load (by kernel_rfl) rfl (hH.zin _ _ (hp17 0 _ (by decide) rfl))) ?_
  refine gl_ops 1 [(6, .slice A10 0 c11), (8, .slice A1 l1.length c1), (25, .slice A 3 c), (26, .int .i64 3), (27, .int .i64 0)] (by kernel_rfl) ?_
  refine gl_dn rfl ?_
  refine sw_region ?_
  refine gl_ops 2 [(25, .slice A 3 c), (26, .int .i64 3), (27, .int .i64 0), (31, .slice A10 0 c11), (32, .slice A1 l1.length c1)] (by kernel_rfl) ?_
  refine gl_st (st_appF (e := 5) (zv := .int .u8 0) (m := 1) (bytes := 1) 0 rfl rfl rfl (by kernel_rfl) (by kernel_rfl) rfl (by decide) hH rfl rfl rfl (h1.row.mono hH.zin) (bv_one _) (by unfold maxLen; omega) (fun hh => absurd hh (by omega)) ?_)
  clear hH; intro v19 w20 hcap21 hH
  obtain rfl := hcap21 (by omega)
  replace hH := hH.row_eq 0 (l' := 0 + l1.length) (xs' := bv l1) rfl (rfl) (List.nil_append _)
  refine gl_ops 1 [(6, .slice A10 (0 + l1.length) c11), (25, .slice A 3 c), (26, .int .i64 3), (27, .int .i64 0)] (by kernel_rfl) ?_
  refine gl_done rfl ?_
  refine bkN ?_
  refine sw_next ?_
  refine sw_region ?_
  refine gl_ops 1 [(6, .slice A10 (0 + l1.length) c11), (25, .slice A 3 c), (26, .int .i64 3), (34, .int .i64 (IntKind.i64.wrap (0 + 1)))] (by kernel_rfl) ?_
  refine gl_cv 34 (.int .i64 1) (cv_i64 (by omega)) rfl ?_
  refine gl_ops 1 [(6, .slice A10 (0 + l1.length) c11), (25, .slice A 3 c), (26, .int .i64 3), (27, .int .i64 1)] (by kernel_rfl) ?_
  refine gl_done rfl ?_
  refine sw_again ?_
  refine sw_keep [(6, .slice A10 (0 + l1.length) c11), (25, .slice A 3 c), (26, .int .i64 3), (27, .int .i64 1)] (by kernel_rfl) ?_
  refine sw_sr ?_
  refine gl_ops 1 [(6, .slice A10 (0 + l1.length) c11), (25, .slice A 3 c), (26, .int .i64 3), (27, .int .i64 1), (28, .bool true)] (by kernel_rfl) ?_
  refine gl_dn rfl ?_
  refine sw_seq ?_
  refine sw_true rfl rfl ?_
  refine sw_skip ?_
  refine sw_next ?_
  refine sw_seq ?_
  refine sw_block ?_
  refine sw_sr ?_
  obtain ⟨p22, hi24, hp23⟩ := hR.idx 1 (by omega) (by decide)
  refine gl_q rfl rfl rfl (rd_idx (e := 22) (m := 1) (by kernel_rfl) (by kernel_rfl) rfl rfl hi24) ?_
  refine gl_q rfl rfl rfl (rd_load (by kernel_rfl) rfl (hH.zin _ _ (hp23 0 _ (by decide) rfl))) ?_
  refine gl_ops 1 [(6, .slice A10 (0 + l1.length) c11), (8, .slice A2 l2.length c2), (25, .slice A 3 c), (26, .int .i64 3), (27, .int .i64 1)] (by kernel_rfl) ?_
  refine gl_dn rfl ?_
  refine sw_region ?_
  refine gl_ops 2 [(25, .slice A 3 c), (26, .int .i64 3), (27, .int .i64 1), (31, .slice A10 (0 + l1.length) c11), (32, .slice A2 l2.length c2)] (by kernel_rfl) ?_
  refine gl_st (st_appF (e := 5) (zv := .int .u8 0) (m := 1) (bytes := 1) 0 rfl rfl rfl (by kernel_rfl) (by kernel_rfl) rfl (by decide) hH rfl rfl rfl (h2.row.mono hH.zin) (bv_one _) (by unfold maxLen; omega) (fun hh => absurd hh (by omega)) ?_)
  clear hH; intro v25 w26 hcap27 hH
  obtain rfl := hcap27 (by omega)
  replace hH := hH.row_eq 0 (l' := (0 + l1.length) + l2.length) (xs' := bv (l1 ++ l2)) rfl (rfl) ((bv_append _ _).symm)
  refine gl_ops 1 [(6, .slice A10 ((0 + l1.length) + l2.length) c11), (25, .slice A 3 c), (26, .int .i64 3), (27, .int .i64 1)] (by kernel_rfl) ?_
  refine gl_done rfl ?_
  refine bkN ?_
  refine sw_next ?_
  refine sw_region ?_
  refine gl_ops 1 [(6, .slice A10 ((0 + l1.length) + l2.length) c11), (25, .slice A 3 c), (26, .int .i64 3), (34, .int .i64 (IntKind.i64.wrap (1 + 1)))] (by kernel_rfl) ?_
  refine gl_cv 34 (.int .i64 2) (cv_i64 (by omega)) rfl ?_
  refine gl_ops 1 [(6, .slice A10 ((0 + l1.length) + l2.length) c11), (25, .slice A 3 c), (26, .int .i64 3), (27, .int .i64 2)] (by kernel_rfl) ?_
  refine gl_done rfl ?_
  refine sw_again ?_
  refine sw_keep [(6, .slice A10 ((0 + l1.length) + l2.length) c11), (25, .slice A 3 c), (26, .int .i64 3), (27, .int .i64 2)] (by kernel_rfl) ?_
  refine sw_sr ?_
  refine gl_ops 1 [(6, .slice A10 ((0 + l1.length) + l2.length) c11), (25, .slice A 3 c), (26, .int .i64 3), (27, .int .i64 2), (28, .bool true)] (by kernel_rfl) ?_
  refine gl_dn rfl ?_
  refine sw_seq ?_
  refine sw_true rfl rfl ?_
  refine sw_skip ?_
  refine sw_next ?_
  refine sw_seq ?_
  refine sw_block ?_
  refine sw_sr ?_
  obtain ⟨p28, hi30, hp29⟩ := hR.idx 2 (by omega) (by decide)
  refine gl_q rfl rfl rfl (rd_idx (e := 22) (m := 1) (by kernel_rfl) (by kernel_rfl) rfl rfl hi30) ?_
  refine gl_q rfl rfl rfl (rd_load (by kernel_rfl) rfl (hH.zin _ _ (hp29 0 _ (by decide) rfl))) ?_
  refine gl_ops 1 [(6, .slice A10 ((0 + l1.length) + l2.length) c11), (8, .slice A3 l3.length c3), (25, .slice A 3 c), (26, .int .i64 3), (27, .int .i64 2)] (by kernel_rfl) ?_
  refine gl_dn rfl ?_
  refine sw_region ?_
  refine gl_ops 2 [(25, .slice A 3 c), (26, .int .i64 3), (27, .int .i64 2), (31, .slice A10 ((0 + l1.length) + l2.length) c11), (32, .slice A3 l3.length c3)] (by kernel_rfl) ?_
  refine gl_st (st_appF (e := 5) (zv := .int .u8 0) (m := 1) (bytes := 1) 0 rfl rfl rfl (by kernel_rfl) (by kernel_rfl) rfl (by decide) hH rfl rfl rfl (h3.row.mono hH.zin) (bv_one _) (by unfold maxLen; omega) (fun hh => absurd hh (by omega)) ?_)
  clear hH; intro v31 w32 hcap33 hH
  obtain rfl := hcap33 (by omega)
  replace hH := hH.row_eq 0 (l' := ((0 + l1.length) + l2.length) + l3.length) (xs' := bv ((l1 ++ l2) ++ l3)) rfl (rfl) ((bv_append _ _).symm)
  refine gl_ops 1 [(6, .slice A10 (((0 + l1.length) + l2.length) + l3.length) c11), (25, .slice A 3 c), (26, .int .i64 3), (27, .int .i64 2)] (by kernel_rfl) ?_
  refine gl_done rfl ?_
  refine bkN ?_
  refine sw_next ?_
  refine sw_region ?_
  refine gl_ops 1 [(6, .slice A10 (((0 + l1.length) + l2.length) + l3.length) c11), (25, .slice A 3 c), (26, .int .i64 3), (34, .int .i64 (IntKind.i64.wrap (2 + 1)))] (by kernel_rfl) ?_
  refine gl_cv 34 (.int .i64 3) (cv_i64 (by omega)) rfl ?_
  refine gl_ops 1 [(6, .slice A10 (((0 + l1.length) + l2.length) + l3.length) c11), (25, .slice A 3 c), (26, .int .i64 3), (27, .int .i64 3)] (by kernel_rfl) ?_
  refine gl_done rfl ?_
  refine sw_again ?_
  refine sw_keep [(6, .slice A10 (((0 + l1.length) + l2.length) + l3.length) c11), (25, .slice A 3 c), (26, .int .i64 3), (27, .int .i64 3)] (by kernel_rfl) ?_
  refine sw_sr ?_
  refine gl_ops 1 [(6, .slice A10 (((0 + l1.length) + l2.length) + l3.length) c11), (25, .slice A 3 c), (26, .int .i64 3), (27, .int .i64 3), (28, .bool false)] (by kernel_rfl) ?_
  refine gl_dn rfl ?_
  refine sw_seq ?_
  refine sw_false rfl rfl ?_
  refine sw_exit ?_
  refine thX ?_
  refine thX ?_
  refine bkH ?_
  refine sw_next ?_
  refine sw_sr ?_
  refine gl_ops 2 [(2, .slice A10 (((0 + l1.length) + l2.length) + l3.length) c11)] (by kernel_rfl) ?_
  refine gl_dn rfl ?_
  refine sw_ret ?_
  refine ret1 rfl rfl  ?_
  exact ⟨_, rfl, (hH.row_eq 0 (l' := (l1 ++ l2 ++ l3).length) (xs' := bv (l1 ++ l2 ++ l3)) rfl (by simp <;> omega) rfl).fresh⟩
theorem errs_get (es : List Nat) (j : Nat) (h : j < es.length) : (es.map errV)[j * 1 + 0]? = some (errV (es.getD j 0)) := by
  simp [h, List.getD_eq_getElem?_getD]

theorem Join_ct (v0 : Value) (es : List Nat) (w : World) (hR : Row w.cell? v0 1 es.length (es.map errV)) (hl : es.length ≤ 65536) :
    Fun Tryz.prog 63 [v0] w fun v w' => ∃ b, v = ifW (cnz es == 0) 169 (.pointer (some ⟨b, 0, none⟩)) ∧ Fresh w w' [] := by
  obtain ⟨A0, c0, rfl, hR1, hR2⟩ := hR.form
  have hcl := cnz_le es
  refine fun_of_sw Tryz.func63 rfl 47 rfl rfl ?_
  have hH := Hp.start w
  refine sw_sr ?_
  refine gl_ops 1 [(0, .slice A0 es.length c0)] (by kernel_rfl) ?_
  refine gl_dn rfl ?_
  refine sw_sr ?_
  refine gl_ops 1 [(0, .slice A0 es.length c0), (3, .int .i64 0)] (by kernel_rfl) ?_
  refine gl_dn rfl ?_
  refine sw_seq ?_
  refine sw_sr ?_
  refine gl_ops 1 [(0, .slice A0 es.length c0), (3, .int .i64 0), (9, .slice A0 es.length c0)] (by kernel_rfl) ?_
  refine gl_q rfl rfl rfl (rd_len (e := 30) (by kernel_rfl) rfl) ?_
  refine gl_ops 1 [(0, .slice A0 es.length c0), (3, .int .i64 0), (9, .slice A0 es.length c0), (10, Ni es.length), (11, .int .i64 0)] (by kernel_rfl) ?_
  refine gl_dn rfl ?_
  refine sw_block ?_
  refine sw_loop (γ := Nat) (fun j => [(0, .slice A0 es.length c0), (3, Ni (cnz (es.take j))), (9, .slice A0 es.length c0), (10, Ni es.length), (11, Ni j)]) (fun j w_ => (j ≤ es.length) ∧ Hp w w_ (w.cell?) [] []) (fun j => es.length - j) (0) (Sub.of_eq (by kernel_rfl)) ?_ ?_
  · exact ⟨by omega, hH⟩
  clear hH
  rintro j w1 ⟨hj, hH⟩
  have hcz := cnz_take_le es j
  refine sw_keep [(0, .slice A0 es.length c0), (3, Ni (cnz (es.take j))), (9, .slice A0 es.length c0), (10, Ni es.length), (11, Ni j)] (by kernel_rfl) ?_
  refine sw_sr ?_
  refine gl_ops 1 [(0, .slice A0 es.length c0), (3, Ni (cnz (es.take j))), (9, .slice A0 es.length c0), (10, Ni es.length), (11, Ni j), (12, .bool (decide (((j : Nat) : Int) < ((es.length : Nat) : Int))))] (by kernel_rfl) ?_
  refine gl_dn rfl ?_
  refine sw_seq ?_
  refine sw_cond rfl rfl (fun hc1 => ?_) (fun hc1 => ?_)
  ·
    try simp only [decide_eq_true_eq] at hc1
    refine sw_skip ?_
    refine sw_next ?_
    refine sw_seq ?_
    refine sw_block ?_
    refine sw_sr ?_
    obtain ⟨p2, hi4, hp3⟩ := hR.idx j (by omega) (by decide)
    refine gl_q rfl rfl rfl (rd_idx (e := 30) (m := 1) (by kernel_rfl) (by kernel_rfl) rfl rfl hi4) ?_
    refine gl_q rfl rfl rfl (rd_load (by kernel_rfl) rfl (hH.zin _ _ (hp3 0 _ (by decide) (errs_get es j (by omega))))) ?_
    refine gl_ops 1 [(0, .slice A0 es.length c0), (3, Ni (cnz (es.take j))), (5, errV (es.getD j 0)), (9, .slice A0 es.length c0), (10, Ni es.length), (11, Ni j)] (by kernel_rfl) ?_
    refine gl_dn rfl ?_
    refine sw_sr ?_
    refine gl_ops 1 [(0, .slice A0 es.length c0), (3, Ni (cnz (es.take j))), (9, .slice A0 es.length c0), (10, Ni es.length), (11, Ni j), (15, errV (es.getD j 0))] (by kernel_rfl) ?_
    refine gl_q rfl rfl rfl (rd_err_ne (by kernel_rfl) rfl) ?_
    refine gl_dn rfl ?_
    refine sw_cond rfl rfl (fun hc2 => ?_) (fun hc2 => ?_)
    ·
      try simp only [bne_iff_ne, ne_eq] at hc2
      refine sw_region ?_
      refine gl_ops 2 [(0, .slice A0 es.length c0), (9, .slice A0 es.length c0), (10, Ni es.length), (11, Ni j), (18, .int .i64 (IntKind.i64.wrap (((cnz (es.take j) : Nat) : Int) + 1)))] (by kernel_rfl) ?_
      refine gl_cv 18 (Ni (cnz (es.take (j + 1)))) (by rw [cnz_step es j (by omega), if_neg hc2]; exact cv_i64 (by omega)) rfl ?_
      refine gl_ops 1 [(0, .slice A0 es.length c0), (3, Ni (cnz (es.take (j + 1)))), (9, .slice A0 es.length c0), (10, Ni es.length), (11, Ni j)] (by kernel_rfl) ?_
      refine gl_done rfl ?_
      refine bkN ?_
      refine sw_next ?_
      refine sw_region ?_
      refine gl_ops 1 [(0, .slice A0 es.length c0), (3, Ni (cnz (es.take (j + 1)))), (9, .slice A0 es.length c0), (10, Ni es.length), (19, .int .i64 (IntKind.i64.wrap (((j : Nat) : Int) + 1)))] (by kernel_rfl) ?_
      refine gl_cv 19 (Ni (j + 1)) (cv_i64 (by omega)) rfl ?_
      refine gl_ops 1 [(0, .slice A0 es.length c0), (3, Ni (cnz (es.take (j + 1)))), (9, .slice A0 es.length c0), (10, Ni es.length), (11, Ni (j + 1))] (by kernel_rfl) ?_
      refine gl_done rfl ?_
      refine rnd_end (g := (j)) (j + 1) (by kernel_rfl) ?_ ?_
      · exact ⟨by omega, hH⟩
      · show es.length - (j + 1) < es.length - j; omega
    try simp only [bne_eq_false_iff_eq] at hc2
    refine sw_cv 3 (Ni (cnz (es.take (j + 1)))) (by rw [cnz_step es j (by omega), if_pos hc2]; rfl) rfl ?_
    refine sw_skip ?_
    refine bkN ?_
    refine sw_next ?_
    refine sw_region ?_
    refine gl_ops 1 [(0, .slice A0 es.length c0), (3, Ni (cnz (es.take (j + 1)))), (9, .slice A0 es.length c0), (10, Ni es.length), (19, .int .i64 (IntKind.i64.wrap (((j : Nat) : Int) + 1)))] (by kernel_rfl) ?_
    refine gl_cv 19 (Ni (j + 1)) (cv_i64 (by omega)) rfl ?_
    refine gl_ops 1 [(0, .slice A0 es.length c0), (3, Ni (cnz (es.take (j + 1)))), (9, .slice A0 es.length c0), (10, Ni es.length), (11, Ni (j + 1))] (by kernel_rfl) ?_
    refine gl_done rfl ?_
    refine rnd_end (g := (j)) (j + 1) (by kernel_rfl) ?_ ?_
    · exact ⟨by omega, hH⟩
    · show es.length - (j + 1) < es.length - j; omega
  try simp only [decide_eq_false_iff_not, Int.not_lt, Int.not_le] at hc1
  have hje : j = es.length := by omega
  rw [show es.take j = es from by rw [hje, List.take_length]]
  refine sw_exit ?_
  refine thX ?_
  refine thX ?_
  refine bkH ?_
  refine sw_next ?_
  refine sw_seq ?_
  refine sw_sr ?_
  refine gl_ops 2 [(0, .slice A0 es.length c0), (3, Ni (cnz es)), (21, .bool (((cnz es : Nat) : Int) == (0 : Int)))] (by kernel_rfl) ?_
  refine gl_dn rfl ?_
  refine sw_cond rfl rfl (fun hc3 => ?_) (fun hc3 => ?_)
  ·
    try simp only [beq_iff_eq] at hc3
    refine sw_sr ?_
    refine gl_ops 1 [(2, .nilIface)] (by kernel_rfl) ?_
    refine gl_dn rfl ?_
    refine sw_ret ?_
    refine thR ?_
    refine ret1 rfl rfl  ?_
    exact ⟨0, by rw [show (cnz es == 0) = true from by simp; omega]; rfl, (hH.sublist (List.nil_sublist _)).fresh⟩
  try simp only [beq_eq_false_iff_ne, ne_eq] at hc3
  refine sw_skip ?_
  refine sw_next ?_
  refine sw_sr ?_
  refine gl_ops 1 [(0, .slice A0 es.length c0), (22, Ni (cnz es))] (by kernel_rfl) ?_
  refine gl_st (st_makeC (e := 30) (zv := .nilIface) (bytes := 16) rfl rfl rfl (by kernel_rfl) (by kernel_rfl) rfl (cnz es) rfl rfl (by omega) (by unfold maxLen; omega) hH ?_)
  clear hH; intro b5 w6 hH
  refine gl_ops 1 [(0, .slice A0 es.length c0), (24, .agg #[.slice (some ⟨b5, 0, none⟩) 0 (cnz es)])] (by kernel_rfl) ?_
  refine gl_st (st_boxH (cs := [.slice (some ⟨b5, 0, none⟩) 0 (cnz es)]) rfl rfl rfl rfl hH ?_)
  clear hH; intro b7 w8 hH
  refine gl_ops 1 [(0, .slice A0 es.length c0), (6, Pp b7 0)] (by kernel_rfl) ?_
  refine gl_dn rfl ?_
  refine sw_seq ?_
  refine sw_sr ?_
  refine gl_ops 1 [(6, Pp b7 0), (26, .slice A0 es.length c0)] (by kernel_rfl) ?_
  refine gl_q rfl rfl rfl (rd_len (e := 30) (by kernel_rfl) rfl) ?_
  refine gl_ops 1 [(6, Pp b7 0), (26, .slice A0 es.length c0), (27, Ni es.length), (28, .int .i64 0)] (by kernel_rfl) ?_
  refine gl_dn rfl ?_
  refine sw_block ?_
  refine sw_loop (γ := Nat × Option Addr × Nat × Nat × List Value) (fun (j, A, c, q, xs) => [(6, Pp b7 0), (26, .slice A0 es.length c0), (27, Ni es.length), (28, Ni j)]) (fun (j, A, c, q, xs) w_ => (j ≤ es.length) ∧ (q ≤ j) ∧ Hp w w_ (w.cell?) [] [.row (.slice A q c) 30 1 q xs, .blk b7 171 [.slice A q c]]) (fun (j, A, c, q, xs) => es.length - j) (0, (some ⟨b5, 0, none⟩), cnz es, 0, []) (Sub.of_eq (by kernel_rfl)) ?_ ?_
  · exact ⟨by omega, by omega, hH⟩
  clear hH
  rintro ⟨j, A, c, q, xs⟩ w9 ⟨hj, hq, hH⟩
  refine sw_keep [(6, Pp b7 0), (26, .slice A0 es.length c0), (27, Ni es.length), (28, Ni j)] (by kernel_rfl) ?_
  refine sw_sr ?_
  refine gl_ops 1 [(6, Pp b7 0), (26, .slice A0 es.length c0), (27, Ni es.length), (28, Ni j), (29, .bool (decide (((j : Nat) : Int) < ((es.length : Nat) : Int))))] (by kernel_rfl) ?_
  refine gl_dn rfl ?_
  refine sw_seq ?_
  refine sw_cond rfl rfl (fun hc4 => ?_) (fun hc4 => ?_)
  ·
    try simp only [decide_eq_true_eq] at hc4
    refine sw_skip ?_
    refine sw_next ?_
    refine sw_seq ?_
    refine sw_block ?_
    refine sw_sr ?_
    obtain ⟨p10, hi12, hp11⟩ := hR.idx j (by omega) (by decide)
    refine gl_q rfl rfl rfl (rd_idx (e := 30) (m := 1) (by kernel_rfl) (by kernel_rfl) rfl rfl hi12) ?_
    refine gl_q rfl rfl rfl (rd_load (by kernel_rfl) rfl (hH.zin _ _ (hp11 0 _ (by decide) (errs_get es j (by omega))))) ?_
    refine gl_ops 1 [(6, Pp b7 0), (8, errV (es.getD j 0)), (26, .slice A0 es.length c0), (27, Ni es.length), (28, Ni j)] (by kernel_rfl) ?_
    refine gl_dn rfl ?_
    refine sw_sr ?_
    refine gl_ops 1 [(6, Pp b7 0), (8, errV (es.getD j 0)), (26, .slice A0 es.length c0), (27, Ni es.length), (28, Ni j), (32, errV (es.getD j 0))] (by kernel_rfl) ?_
    refine gl_q rfl rfl rfl (rd_err_ne (by kernel_rfl) rfl) ?_
    refine gl_dn rfl ?_
    refine sw_cond rfl rfl (fun hc5 => ?_) (fun hc5 => ?_)
    ·
      try simp only [bne_iff_ne, ne_eq] at hc5
      refine sw_region ?_
      refine gl_ops 4 [(6, Pp b7 0), (8, errV (es.getD j 0)), (26, .slice A0 es.length c0), (27, Ni es.length), (28, Ni j), (34, Pp b7 0), (37, Pp b7 0)] (by kernel_rfl) ?_
      refine gl_q rfl rfl rfl (rd_loadK 1 (by kernel_rfl) hH rfl rfl rfl) ?_
      refine gl_ops 1 [(6, Pp b7 0), (26, .slice A0 es.length c0), (27, Ni es.length), (28, Ni j), (34, Pp b7 0), (38, .slice A q c), (39, errV (es.getD j 0))] (by kernel_rfl) ?_
      refine gl_cv 39 (.iface 37 (.int .i64 ((es.getD j 0 : Nat) : Int))) (errW_pos hc5) rfl ?_
      refine gl_st (st_buildS (e := 30) (zv := .nilIface) (m := 1) (bytes := 16) rfl rfl rfl (by kernel_rfl) (by kernel_rfl) rfl (cs := [.iface 37 (Ni (es.getD j 0))]) (by kernel_rfl) rfl hH ?_)
      clear hH; intro b13 w14 hH
      refine gl_st (st_appH (e := 30) (zv := .nilIface) (m := 1) (bytes := 16) 0 rfl rfl rfl (by kernel_rfl) (by kernel_rfl) rfl (by decide) hH rfl rfl rfl (hH.row_reads 2 rfl) (by simp [Value.oneCell']) (by unfold maxLen; omega) (by omega) ?_)
      clear hH; intro v15 w16 hH
      obtain ⟨A17, c18, rfl, hl19, hm20⟩ := hH.row_form 0 rfl
      refine gl_ops 2 [(6, Pp b7 0), (26, .slice A0 es.length c0), (27, Ni es.length), (28, Ni j), (41, .slice A17 (q + 1) c18), (43, Pp b7 0)] (by kernel_rfl) ?_
      refine gl_st (st_storeK (v := .slice A17 (q + 1) c18) 1 rfl rfl rfl hH rfl rfl rfl (by kernel_rfl) rfl (by simp) ?_)
      clear hH; intro w21 hH
      refine gl_done rfl ?_
      refine bkN ?_
      refine sw_next ?_
      refine sw_region ?_
      refine gl_ops 1 [(6, Pp b7 0), (26, .slice A0 es.length c0), (27, Ni es.length), (44, .int .i64 (IntKind.i64.wrap (((j : Nat) : Int) + 1)))] (by kernel_rfl) ?_
      refine gl_cv 44 (Ni (j + 1)) (cv_i64 (by omega)) rfl ?_
      refine gl_ops 1 [(6, Pp b7 0), (26, .slice A0 es.length c0), (27, Ni es.length), (28, Ni (j + 1))] (by kernel_rfl) ?_
      refine gl_done rfl ?_
      refine rnd_end (g := (j, A, c, q, xs)) (j + 1, A17, c18, q + 1, xs ++ [.iface 37 (Ni (es.getD j 0))]) (by kernel_rfl) ?_ ?_
      · exact ⟨by omega, by omega, (hH.sublist (.cons_cons _ (.cons_cons _ (List.nil_sublist _))))⟩
      · show es.length - (j + 1) < es.length - j; omega
    try simp only [bne_eq_false_iff_eq] at hc5
    refine sw_skip ?_
    refine bkN ?_
    refine sw_next ?_
    refine sw_region ?_
    refine gl_ops 1 [(6, Pp b7 0), (26, .slice A0 es.length c0), (27, Ni es.length), (44, .int .i64 (IntKind.i64.wrap (((j : Nat) : Int) + 1)))] (by kernel_rfl) ?_
    refine gl_cv 44 (Ni (j + 1)) (cv_i64 (by omega)) rfl ?_
    refine gl_ops 1 [(6, Pp b7 0), (26, .slice A0 es.length c0), (27, Ni es.length), (28, Ni (j + 1))] (by kernel_rfl) ?_
    refine gl_done rfl ?_
    refine rnd_end (g := (j, A, c, q, xs)) (j + 1, A, c, q, xs) (by kernel_rfl) ?_ ?_
    · exact ⟨by omega, by omega, (hH.sublist (.cons_cons _ (.cons_cons _ (List.nil_sublist _))))⟩
    · show es.length - (j + 1) < es.length - j; omega
  try simp only [decide_eq_false_iff_not, Int.not_lt, Int.not_le] at hc4
  refine sw_exit ?_
  refine thX ?_
  refine thX ?_
  refine bkH ?_
  refine sw_next ?_
  refine sw_sr ?_
  refine gl_ops 3 [(2, .iface 169 (Pp b7 0))] (by kernel_rfl) ?_
  refine gl_dn rfl ?_
  refine sw_ret ?_
  refine ret1 rfl rfl  ?_
  exact ⟨_, by rw [show (cnz es == 0) = false from by simp; omega]; rfl, (hH.sublist (List.nil_sublist _)).fresh⟩
theorem Bytes_ct (i t : Int) (vc vd : Value) (cf dt : List UInt8) (w : World) (hc : RB w.cell? vc cf) (hd : RB w.cell? vd dt) (hi : -9223372036854775808 ≤ i ∧ i ≤ 9223372036854775807) (ht : -9223372036854775808 ≤ t ∧ t ≤ 9223372036854775807) (hdl : dt.length ≤ 140737488355328) :
    Fun Tryz.prog 27 [.agg #[.int .i64 i, .int .i64 t, vc, vd]] w fun v w' => ∃ v1, v = .tuple #[v1, errV (bytesV i t cf dt).2] ∧ Fresh w w' [.row v1 5 1 (bytesV i t cf dt).1.length (bv (bytesV i t cf dt).1)] := by
  obtain ⟨Ac, cc, rfl, hc1, hc2⟩ := hc.row.form
  obtain ⟨Ad, cd, rfl, hd1, hd2⟩ := hd.row.form
  have hn1 := numB_le i.toNat
  have hn2 := numB_le t.toNat
  have hn3 := numB_le cf.length
  refine fun_of_sw Tryz.func27 rfl 51 rfl rfl ?_
  have hH := Hp.start w
  refine sw_sr ?_
  refine gl_st (st_boxH (cs := [.int .i64 i, .int .i64 t, .slice Ac cf.length cc, .slice Ad dt.length cd]) rfl rfl rfl rfl hH ?_)
  clear hH; intro b1 w2 hH
  refine gl_ops 2 [(1, Pp b1 0)] (by kernel_rfl) ?_
  refine gl_dn rfl ?_
  refine sw_sr ?_
  refine gl_ops 1 [(1, Pp b1 0), (4, .slice none 0 0)] (by kernel_rfl) ?_
  replace hH := hH.nilRow 5 1
  refine gl_dn rfl ?_
  refine sw_seq ?_
  refine sw_sr ?_
  refine gl_ops 1 [(1, Pp b1 0), (4, .slice none 0 0), (11, Pp b1 0)] (by kernel_rfl) ?_
  refine gl_q rfl rfl rfl (rd_loadK 0 (by kernel_rfl) hH rfl rfl rfl) ?_
  refine gl_ops 1 [(1, Pp b1 0), (4, .slice none 0 0), (12, .int .i64 i), (13, Pp b1 1)] (by kernel_rfl) ?_
  refine gl_q rfl rfl rfl (rd_loadK 0 (by kernel_rfl) hH rfl rfl rfl) ?_
  refine gl_st (st_buildS (e := 3) (zv := .int .i64 0) (m := 1) (bytes := 8) rfl rfl rfl (by kernel_rfl) (by kernel_rfl) rfl (cs := [.int .i64 i, .int .i64 t]) (by kernel_rfl) rfl hH ?_)
  clear hH; intro b3 w4 hH
  refine gl_q rfl rfl rfl (rd_len (e := 3) (by kernel_rfl) rfl) ?_
  refine gl_ops 1 [(1, Pp b1 0), (4, .slice none 0 0), (15, .slice (some ⟨b3, 0, none⟩) 2 2), (16, .int .i64 2), (17, .int .i64 0)] (by kernel_rfl) ?_
  refine gl_dn rfl ?_
  refine sw_block ?_
  refine sw_unroll ?_
  refine sw_sr ?_
  refine gl_ops 1 [(1, Pp b1 0), (4, .slice none 0 0), (15, .slice (some ⟨b3, 0, none⟩) 2 2), (16, .int .i64 2), (17, .int .i64 0), (18, .bool true)] (by kernel_rfl) ?_
  refine gl_dn rfl ?_
  refine sw_seq ?_
  refine sw_true rfl rfl ?_
  refine sw_skip ?_
  refine sw_next ?_
  refine sw_seq ?_
  refine sw_block ?_
  refine sw_sr ?_
  obtain ⟨b6, hb5, hi7⟩ := hH.row_idx 2 rfl 0 (by omega)
  refine gl_q rfl rfl rfl (rd_idx (e := 3) (m := 1) (by kernel_rfl) (by kernel_rfl) rfl rfl hi7) ?_
  refine gl_q rfl rfl rfl (rd_loadO 2 (by kernel_rfl) hH rfl rfl hb5 rfl) ?_
  refine gl_ops 1 [(1, Pp b1 0), (4, .slice none 0 0), (6, .int .i64 i), (15, .slice (some ⟨b3, 0, none⟩) 2 2), (16, .int .i64 2), (17, .int .i64 0)] (by kernel_rfl) ?_
  refine gl_dn rfl ?_
  refine sw_sr ?_
  refine gl_ops 1 [(1, Pp b1 0), (4, .slice none 0 0), (15, .slice (some ⟨b3, 0, none⟩) 2 2), (16, .int .i64 2), (17, .int .i64 0), (22, .int .i64 i)] (by kernel_rfl) ?_
  refine gl_st (st_call rfl rfl rfl (by kernel_rfl) rfl (NumI_ct i _ (by omega)) ?_)
  rintro _ w10 ⟨v8, rfl, hF11⟩
  replace hH := hH.call hF11; clear hF11
  obtain ⟨A12, c13, rfl, hl14, hm15⟩ := hH.row_form 3 rfl
  refine gl_ops 5 [(1, Pp b1 0), (4, .slice none 0 0), (7, .slice A12 ((numO i).length) c13), (8, errV (if i < 0 then 1 else 0)), (15, .slice (some ⟨b3, 0, none⟩) 2 2), (16, .int .i64 2), (17, .int .i64 0)] (by kernel_rfl) ?_
  refine gl_dn rfl ?_
  refine sw_seq ?_
  refine sw_sr ?_
  refine gl_ops 1 [(1, Pp b1 0), (4, .slice none 0 0), (7, .slice A12 ((numO i).length) c13), (15, .slice (some ⟨b3, 0, none⟩) 2 2), (16, .int .i64 2), (17, .int .i64 0), (26, errV (if i < 0 then 1 else 0))] (by kernel_rfl) ?_
  refine gl_q rfl rfl rfl (rd_err_ne (by kernel_rfl) rfl) ?_
  refine gl_dn rfl ?_
  refine sw_cond rfl rfl (fun hc2 => ?_) (fun hc2 => ?_)
  ·
    try simp only [bne_iff_ne, ne_eq] at hc2
    have hi : i < 0 := by by_cases hh : i < 0; exact hh; rw [if_neg hh] at hc2; exact absurd rfl hc2
    refine sw_sr ?_
    refine gl_ops 3 [(2, .slice none 0 0), (3, .iface 37 (.int .i64 1))] (by kernel_rfl) ?_
    refine gl_dn rfl ?_
    refine sw_ret ?_
    refine thR ?_
    refine bkR ?_
    refine thR ?_
    refine thR ?_
    refine bkR ?_
    refine thR ?_
    refine ret2 rfl rfl rfl  ?_
    exact ⟨_, by unfold bytesV; rw [if_pos hi]; rfl, ((hH.sublist (List.nil_sublist _)).nilRow 5 1).cast (by unfold bytesV; rw [if_pos hi]; rfl) |>.fresh⟩
  try simp only [bne_eq_false_iff_eq] at hc2
  have hi : ¬ i < 0 := by intro hh; rw [if_pos hh] at hc2; exact absurd hc2 (by decide)
  refine sw_skip ?_
  refine sw_next ?_
  refine sw_region ?_
  replace hH := hH.row_eq 3 (l' := (numB i.toNat).length) (xs' := bv (numB i.toNat)) rfl (by unfold numO; rw [if_neg hi]) (by unfold numO; rw [if_neg hi])
  refine gl_ops 2 [(1, Pp b1 0), (15, .slice (some ⟨b3, 0, none⟩) 2 2), (16, .int .i64 2), (17, .int .i64 0), (29, .slice none 0 0), (30, .slice A12 ((numO i).length) c13)] (by kernel_rfl) ?_
  refine gl_st (st_appH (e := 5) (zv := .int .u8 0) (m := 1) (bytes := 1) 1 rfl rfl rfl (by kernel_rfl) (by kernel_rfl) rfl (by decide) hH rfl rfl rfl (hH.row_reads 3 rfl) (bv_one _) (by unfold maxLen; omega) (by omega) ?_)
  clear hH; intro v16 w17 hH
  replace hH := hH.row_eq 1 (l' := (numB i.toNat).length) (xs' := bv (numB i.toNat)) rfl (Nat.zero_add _) (List.nil_append _)
  obtain ⟨A18, c19, rfl, hl20, hm21⟩ := hH.row_form 1 rfl
  refine gl_ops 1 [(1, Pp b1 0), (4, .slice A18 ((numB i.toNat).length) c19), (15, .slice (some ⟨b3, 0, none⟩) 2 2), (16, .int .i64 2), (17, .int .i64 0)] (by kernel_rfl) ?_
  refine gl_done rfl ?_
  refine bkN ?_
  refine sw_next ?_
  refine sw_region ?_
  refine gl_ops 1 [(1, Pp b1 0), (4, .slice A18 ((numB i.toNat).length) c19), (15, .slice (some ⟨b3, 0, none⟩) 2 2), (16, .int .i64 2), (32, .int .i64 (IntKind.i64.wrap (0 + 1)))] (by kernel_rfl) ?_
  refine gl_cv 32 (.int .i64 1) (cv_i64 (by omega)) rfl ?_
  refine gl_ops 1 [(1, Pp b1 0), (4, .slice A18 ((numB i.toNat).length) c19), (15, .slice (some ⟨b3, 0, none⟩) 2 2), (16, .int .i64 2), (17, .int .i64 1)] (by kernel_rfl) ?_
  refine gl_done rfl ?_
  refine sw_again ?_
  refine sw_keep [(1, Pp b1 0), (4, .slice A18 ((numB i.toNat).length) c19), (15, .slice (some ⟨b3, 0, none⟩) 2 2), (16, .int .i64 2), (17, .int .i64 1)] (by kernel_rfl) ?_
  refine sw_sr ?_
  refine gl_ops 1 [(1, Pp b1 0), (4, .slice A18 ((numB i.toNat).length) c19), (15, .slice (some ⟨b3, 0, none⟩) 2 2), (16, .int .i64 2), (17, .int .i64 1), (18, .bool true)] (by kernel_rfl) ?_
  refine gl_dn rfl ?_
  refine sw_seq ?_
  refine sw_true rfl rfl ?_
  refine sw_skip ?_
  refine sw_next ?_
  refine sw_seq ?_
  refine sw_block ?_
  refine sw_sr ?_
  obtain ⟨b23, hb22, hi24⟩ := hH.row_idx 2 rfl 1 (by omega)
  refine gl_q rfl rfl rfl (rd_idx (e := 3) (m := 1) (by kernel_rfl) (by kernel_rfl) rfl rfl hi24) ?_
  refine gl_q rfl rfl rfl (rd_loadO 2 (by kernel_rfl) hH rfl rfl hb22 rfl) ?_
  refine gl_ops 1 [(1, Pp b1 0), (4, .slice A18 ((numB i.toNat).length) c19), (6, .int .i64 t), (15, .slice (some ⟨b3, 0, none⟩) 2 2), (16, .int .i64 2), (17, .int .i64 1)] (by kernel_rfl) ?_
  refine gl_dn rfl ?_
  refine sw_sr ?_
  refine gl_ops 1 [(1, Pp b1 0), (4, .slice A18 ((numB i.toNat).length) c19), (15, .slice (some ⟨b3, 0, none⟩) 2 2), (16, .int .i64 2), (17, .int .i64 1), (22, .int .i64 t)] (by kernel_rfl) ?_
  refine gl_st (st_call rfl rfl rfl (by kernel_rfl) rfl (NumI_ct t _ (by omega)) ?_)
  rintro _ w27 ⟨v25, rfl, hF28⟩
  replace hH := hH.call hF28; clear hF28
  obtain ⟨A29, c30, rfl, hl31, hm32⟩ := hH.row_form 4 rfl
  refine gl_ops 5 [(1, Pp b1 0), (4, .slice A18 ((numB i.toNat).length) c19), (7, .slice A29 ((numO t).length) c30), (8, errV (if t < 0 then 1 else 0)), (15, .slice (some ⟨b3, 0, none⟩) 2 2), (16, .int .i64 2), (17, .int .i64 1)] (by kernel_rfl) ?_
  refine gl_dn rfl ?_
  refine sw_seq ?_
  refine sw_sr ?_
  refine gl_ops 1 [(1, Pp b1 0), (4, .slice A18 ((numB i.toNat).length) c19), (7, .slice A29 ((numO t).length) c30), (15, .slice (some ⟨b3, 0, none⟩) 2 2), (16, .int .i64 2), (17, .int .i64 1), (26, errV (if t < 0 then 1 else 0))] (by kernel_rfl) ?_
  refine gl_q rfl rfl rfl (rd_err_ne (by kernel_rfl) rfl) ?_
  refine gl_dn rfl ?_
  refine sw_cond rfl rfl (fun hc4 => ?_) (fun hc4 => ?_)
  ·
    try simp only [bne_iff_ne, ne_eq] at hc4
    have ht : t < 0 := by by_cases hh : t < 0; exact hh; rw [if_neg hh] at hc4; exact absurd rfl hc4
    refine sw_sr ?_
    refine gl_ops 3 [(2, .slice none 0 0), (3, .iface 37 (.int .i64 1))] (by kernel_rfl) ?_
    refine gl_dn rfl ?_
    refine sw_ret ?_
    refine thR ?_
    refine bkR ?_
    refine thR ?_
    refine thR ?_
    refine bkR ?_
    refine thR ?_
    refine ret2 rfl rfl rfl  ?_
    exact ⟨_, by unfold bytesV; rw [if_neg hi, if_pos ht]; rfl, ((hH.sublist (List.nil_sublist _)).nilRow 5 1).cast (by unfold bytesV; rw [if_neg hi, if_pos ht]; rfl) |>.fresh⟩
  try simp only [bne_eq_false_iff_eq] at hc4
  have ht : ¬ t < 0 := by intro hh; rw [if_pos hh] at hc4; exact absurd hc4 (by decide)
  refine sw_skip ?_
  refine sw_next ?_
  refine sw_region ?_
  replace hH := hH.row_eq 4 (l' := (numB t.toNat).length) (xs' := bv (numB t.toNat)) rfl (by unfold numO; rw [if_neg ht]) (by unfold numO; rw [if_neg ht])
  refine gl_ops 2 [(1, Pp b1 0), (15, .slice (some ⟨b3, 0, none⟩) 2 2), (16, .int .i64 2), (17, .int .i64 1), (29, .slice A18 ((numB i.toNat).length) c19), (30, .slice A29 ((numO t).length) c30)] (by kernel_rfl) ?_
  refine gl_st (st_appH (e := 5) (zv := .int .u8 0) (m := 1) (bytes := 1) 1 rfl rfl rfl (by kernel_rfl) (by kernel_rfl) rfl (by decide) hH rfl rfl rfl (hH.row_reads 4 rfl) (bv_one _) (by unfold maxLen; omega) (by omega) ?_)
  clear hH; intro v33 w34 hH
  replace hH := hH.row_eq 1 (l' := ((numB i.toNat) ++ (numB t.toNat)).length) (xs' := bv ((numB i.toNat) ++ (numB t.toNat))) rfl (by simp only [List.length_append, List.length_cons, List.length_nil] <;> omega) ((bv_append _ _).symm)
  obtain ⟨A35, c36, rfl, hl37, hm38⟩ := hH.row_form 1 rfl
  refine gl_ops 1 [(1, Pp b1 0), (4, .slice A35 (((numB i.toNat) ++ (numB t.toNat)).length) c36), (15, .slice (some ⟨b3, 0, none⟩) 2 2), (16, .int .i64 2), (17, .int .i64 1)] (by kernel_rfl) ?_
  refine gl_done rfl ?_
  refine bkN ?_
  refine sw_next ?_
  refine sw_region ?_
  refine gl_ops 1 [(1, Pp b1 0), (4, .slice A35 (((numB i.toNat) ++ (numB t.toNat)).length) c36), (15, .slice (some ⟨b3, 0, none⟩) 2 2), (16, .int .i64 2), (32, .int .i64 (IntKind.i64.wrap (1 + 1)))] (by kernel_rfl) ?_
  refine gl_cv 32 (.int .i64 2) (cv_i64 (by omega)) rfl ?_
  refine gl_ops 1 [(1, Pp b1 0), (4, .slice A35 (((numB i.toNat) ++ (numB t.toNat)).length) c36), (15, .slice (some ⟨b3, 0, none⟩) 2 2), (16, .int .i64 2), (17, .int .i64 2)] (by kernel_rfl) ?_
  refine gl_done rfl ?_
  refine sw_again ?_
  refine sw_keep [(1, Pp b1 0), (4, .slice A35 (((numB i.toNat) ++ (numB t.toNat)).length) c36), (15, .slice (some ⟨b3, 0, none⟩) 2 2), (16, .int .i64 2), (17, .int .i64 2)] (by kernel_rfl) ?_
  refine sw_sr ?_
  refine gl_ops 1 [(1, Pp b1 0), (4, .slice A35 (((numB i.toNat) ++ (numB t.toNat)).length) c36), (15, .slice (some ⟨b3, 0, none⟩) 2 2), (16, .int .i64 2), (17, .int .i64 2), (18, .bool false)] (by kernel_rfl) ?_
  refine gl_dn rfl ?_
  refine sw_seq ?_
  refine sw_false rfl rfl ?_
  refine sw_exit ?_
  refine thX ?_
  refine thX ?_
  refine bkH ?_
  refine sw_next ?_
  refine sw_sr ?_
  refine gl_ops 1 [(1, Pp b1 0), (4, .slice A35 (((numB i.toNat) ++ (numB t.toNat)).length) c36), (34, Pp b1 2)] (by kernel_rfl) ?_
  refine gl_q rfl rfl rfl (rd_loadK 0 (by kernel_rfl) hH rfl rfl rfl) ?_
  refine gl_st (st_call rfl rfl rfl (by kernel_rfl) rfl (Blob_ct _ _ _ (hc.mono hH.zin)) ?_)
  rintro _ w41 ⟨v39, rfl, hF42⟩
  replace hH := hH.call hF42; clear hF42
  obtain ⟨A43, c44, rfl, hl45, hm46⟩ := hH.row_form 5 rfl
  refine gl_ops 5 [(1, Pp b1 0), (4, .slice A35 (((numB i.toNat) ++ (numB t.toNat)).length) c36), (9, .slice A43 ((blobB cf).length) c44), (10, errV (if 65536 < cf.length then 2 else 0))] (by kernel_rfl) ?_
  refine gl_dn rfl ?_
  refine sw_seq ?_
  refine sw_sr ?_
  refine gl_ops 1 [(1, Pp b1 0), (4, .slice A35 (((numB i.toNat) ++ (numB t.toNat)).length) c36), (9, .slice A43 ((blobB cf).length) c44), (39, errV (if 65536 < cf.length then 2 else 0))] (by kernel_rfl) ?_
  refine gl_q rfl rfl rfl (rd_err_ne (by kernel_rfl) rfl) ?_
  refine gl_dn rfl ?_
  refine sw_cond rfl rfl (fun hc6 => ?_) (fun hc6 => ?_)
  ·
    try simp only [bne_iff_ne, ne_eq] at hc6
    have hcf : 65536 < cf.length := by by_cases hh : 65536 < cf.length; exact hh; rw [if_neg hh] at hc6; exact absurd rfl hc6
    refine sw_sr ?_
    refine gl_ops 3 [(2, .slice none 0 0), (3, .iface 37 (.int .i64 1))] (by kernel_rfl) ?_
    refine gl_dn rfl ?_
    refine sw_ret ?_
    refine thR ?_
    refine ret2 rfl rfl rfl  ?_
    exact ⟨_, by unfold bytesV; rw [if_neg hi, if_neg ht, if_pos hcf]; rfl, ((hH.sublist (List.nil_sublist _)).nilRow 5 1).cast (by unfold bytesV; rw [if_neg hi, if_neg ht, if_pos hcf]; rfl) |>.fresh⟩
  try simp only [bne_eq_false_iff_eq] at hc6
  have hcf : ¬ 65536 < cf.length := by intro hh; rw [if_pos hh] at hc6; exact absurd hc6 (by decide)
  have hbl : (blobB cf).length ≤ 65545 := by unfold blobB; rw [if_neg hcf, List.length_append]; omega
  refine sw_skip ?_
  refine sw_next ?_
  refine sw_sr ?_
  refine gl_ops 3 [(42, .slice A35 (((numB i.toNat) ++ (numB t.toNat)).length) c36), (43, .slice A43 ((blobB cf).length) c44), (44, Pp b1 3)] (by kernel_rfl) ?_
  refine gl_q rfl rfl rfl (rd_loadK 0 (by kernel_rfl) hH rfl rfl rfl) ?_
  refine gl_st (st_buildS (e := 22) (zv := .slice none 0 0) (m := 1) (bytes := 24) rfl rfl rfl (by kernel_rfl) (by kernel_rfl) rfl (cs := [.slice A35 (((numB i.toNat) ++ (numB t.toNat)).length) c36, .slice A43 ((blobB cf).length) c44, .slice Ad dt.length cd]) (by kernel_rfl) rfl hH ?_)
  clear hH; intro b47 w48 hH
  replace hH : Hp w w48 _ _ [.blk b1 24 [.int .i64 i, .int .i64 t, .slice Ac cf.length cc, .slice Ad dt.length cd], .row (.slice A35 (((numB i.toNat) ++ (numB t.toNat)).length) c36) 5 1 (((numB i.toNat) ++ (numB t.toNat)).length) (bv ((numB i.toNat) ++ (numB t.toNat))), .row (.slice (some ⟨b3, 0, none⟩) 2 2) 3 1 2 [.int .i64 i, .int .i64 t], .row (.slice A12 ((numO i).length) c13) 5 1 ((numB i.toNat).length) (bv (numB i.toNat)), .row (.slice A29 ((numO t).length) c30) 5 1 ((numB t.toNat).length) (bv (numB t.toNat)), .row (.slice A43 ((blobB cf).length) c44) 5 1 ((blobB cf).length) (bv (blobB cf)), .row (.slice (some ⟨b47, 0, none⟩) 3 3) 22 1 3 [.slice A35 (((numB i.toNat) ++ (numB t.toNat)).length) c36, .slice A43 ((blobB cf).length) c44, .slice Ad dt.length cd]] := hH
  refine gl_st (st_call rfl rfl rfl (by kernel_rfl) rfl (Concat3_ct _ _ _ _ _ _ _ _ ((numB i.toNat) ++ (numB t.toNat)) (blobB cf) dt _ (hH.row_reads 6 rfl) (rb_own hH 1 rfl) (rb_own hH 5 rfl) (hd.mono hH.zin) (by simp only [List.length_append]; omega)) ?_)
  rintro _ w51 ⟨v49, rfl, hF52⟩
  replace hH := hH.call hF52; clear hF52
  obtain ⟨A53, c54, rfl, hl55, hm56⟩ := hH.row_form 7 rfl
  replace hH : Hp w w51 _ _ [.blk b1 24 [.int .i64 i, .int .i64 t, .slice Ac cf.length cc, .slice Ad dt.length cd], .row (.slice A35 (((numB i.toNat) ++ (numB t.toNat)).length) c36) 5 1 (((numB i.toNat) ++ (numB t.toNat)).length) (bv ((numB i.toNat) ++ (numB t.toNat))), .row (.slice (some ⟨b3, 0, none⟩) 2 2) 3 1 2 [.int .i64 i, .int .i64 t], .row (.slice A12 ((numO i).length) c13) 5 1 ((numB i.toNat).length) (bv (numB i.toNat)), .row (.slice A29 ((numO t).length) c30) 5 1 ((numB t.toNat).length) (bv (numB t.toNat)), .row (.slice A43 ((blobB cf).length) c44) 5 1 ((blobB cf).length) (bv (blobB cf)), .row (.slice (some ⟨b47, 0, none⟩) 3 3) 22 1 3 [.slice A35 (((numB i.toNat) ++ (numB t.toNat)).length) c36, .slice A43 ((blobB cf).length) c44, .slice Ad dt.length cd], .row (.slice A53 (((numB i.toNat) ++ (numB t.toNat) ++ (blobB cf) ++ dt).length) c54) 5 1 (((numB i.toNat) ++ (numB t.toNat) ++ (blobB cf) ++ dt).length) (bv ((numB i.toNat) ++ (numB t.toNat) ++ (blobB cf) ++ dt))] := hH
  refine gl_st (st_call rfl rfl rfl (by kernel_rfl) rfl (Frame_ct _ _ _ (rb_own hH 7 rfl)) ?_)
  rintro _ w59 ⟨v57, rfl, hF60⟩
  replace hH := hH.call hF60; clear hF60
  obtain ⟨A61, c62, rfl, hl63, hm64⟩ := hH.row_form 8 rfl
  replace hH : Hp w w59 _ _ [.blk b1 24 [.int .i64 i, .int .i64 t, .slice Ac cf.length cc, .slice Ad dt.length cd], .row (.slice A35 (((numB i.toNat) ++ (numB t.toNat)).length) c36) 5 1 (((numB i.toNat) ++ (numB t.toNat)).length) (bv ((numB i.toNat) ++ (numB t.toNat))), .row (.slice (some ⟨b3, 0, none⟩) 2 2) 3 1 2 [.int .i64 i, .int .i64 t], .row (.slice A12 ((numO i).length) c13) 5 1 ((numB i.toNat).length) (bv (numB i.toNat)), .row (.slice A29 ((numO t).length) c30) 5 1 ((numB t.toNat).length) (bv (numB t.toNat)), .row (.slice A43 ((blobB cf).length) c44) 5 1 ((blobB cf).length) (bv (blobB cf)), .row (.slice (some ⟨b47, 0, none⟩) 3 3) 22 1 3 [.slice A35 (((numB i.toNat) ++ (numB t.toNat)).length) c36, .slice A43 ((blobB cf).length) c44, .slice Ad dt.length cd], .row (.slice A53 (((numB i.toNat) ++ (numB t.toNat) ++ (blobB cf) ++ dt).length) c54) 5 1 (((numB i.toNat) ++ (numB t.toNat) ++ (blobB cf) ++ dt).length) (bv ((numB i.toNat) ++ (numB t.toNat) ++ (blobB cf) ++ dt)), .row (.slice A61 ((frameO ((numB i.toNat) ++ (numB t.toNat) ++ (blobB cf) ++ dt)).length) c62) 5 1 ((frameO ((numB i.toNat) ++ (numB t.toNat) ++ (blobB cf) ++ dt)).length) (bv (frameO ((numB i.toNat) ++ (numB t.toNat) ++ (blobB cf) ++ dt)))] := hH
  refine gl_ops 4 [(2, .slice A61 ((frameO ((numB i.toNat) ++ (numB t.toNat) ++ (blobB cf) ++ dt)).length) c62), (3, errV (if 1048576 < ((numB i.toNat) ++ (numB t.toNat) ++ (blobB cf) ++ dt).length then 2 else 0))] (by kernel_rfl) ?_
  refine gl_dn rfl ?_
  refine sw_ret ?_
  refine ret2 rfl rfl rfl  ?_
  exact ⟨_, by rw [bytesV_end hi ht hcf]; rfl, ((hH.sublist (.cons _ (.cons _ (.cons _ (.cons _ (.cons _ (.cons _ (.cons _ (.cons _ (.cons_cons _ (List.nil_sublist _))))))))))).cast (by rw [bytesV_end hi ht hcf]; rfl)).fresh⟩
theorem Read_ct (vb : Value) (b : List UInt8) (w : World) (hb : RB w.cell? vb b) (hl : b.length ≤ 140737488355328) :
    Fun Tryz.prog 30 [vb] w fun v w' => ∃ v1 v2, v = .tuple #[.agg #[.int .i64 (readV b).1.idx, .int .i64 (readV b).1.term, v1, v2], errV (readV b).2] ∧ Fresh w w' [.row v1 5 1 (readV b).1.conf.length (bv (readV b).1.conf), .row v2 5 1 (readV b).1.data.length (bv (readV b).1.data)] := by
  obtain ⟨Ab, cb, rfl, hb1, hb2⟩ := hb.row.form
  refine fun_of_sw Tryz.func30 rfl 75 rfl rfl ?_
  have hH := Hp.start w
  refine sw_sr ?_
  refine gl_st (st_allocH rfl rfl rfl (cs := [.int .i64 0, .int .i64 0, .slice none 0 0, .slice none 0 0]) (by kernel_rfl) hH ?_)
  clear hH; intro b1 w2 hH
  refine gl_ops 1 [(0, .slice Ab b.length cb), (2, Pp b1 0)] (by kernel_rfl) ?_
  refine gl_dn rfl ?_
  refine sw_sr ?_
  refine gl_ops 1 [(0, .slice Ab b.length cb), (2, Pp b1 0), (16, .slice Ab b.length cb)] (by kernel_rfl) ?_
  refine gl_st (st_call rfl rfl rfl (by kernel_rfl) rfl (Open_ct _ _ _ (hb.mono hH.zin)) ?_)
  rintro _ w5 ⟨v3, rfl, hF6⟩
  replace hH := hH.call hF6; clear hF6
  obtain ⟨A7, c8, rfl, hl9, hm10⟩ := hH.row_form 1 rfl
  refine gl_ops 7 [(0, .slice Ab b.length cb), (2, Pp b1 0), (4, .slice A7 (((openF b).1).length) c8), (5, Ni ((openF b).2.1)), (6, errV ((openF b).2.2))] (by kernel_rfl) ?_
  refine gl_dn rfl ?_
  refine sw_seq ?_
  refine sw_sr ?_
  refine gl_ops 1 [(0, .slice Ab b.length cb), (2, Pp b1 0), (4, .slice A7 (((openF b).1).length) c8), (5, Ni ((openF b).2.1)), (21, errV ((openF b).2.2))] (by kernel_rfl) ?_
  refine gl_q rfl rfl rfl (rd_err_ne (by kernel_rfl) rfl) ?_
  refine gl_ops 1 [(0, .slice Ab b.length cb), (2, Pp b1 0), (4, .slice A7 (((openF b).1).length) c8), (5, Ni ((openF b).2.1)), (23, .bool (((openF b).2.2) != 0))] (by kernel_rfl) ?_
  refine gl_split 23 (b := ((openF b).2.2) != 0) rfl (fun hg1 => ?_) (fun hg1 => ?_)
  ·
    try simp only [bne_iff_ne, ne_eq] at hg1
    refine gl_ops 5 [(2, Pp b1 0), (4, .slice A7 (((openF b).1).length) c8), (28, .bool true)] (by kernel_rfl) ?_
    refine gl_dn rfl ?_
    refine sw_true rfl rfl ?_
    refine sw_sr ?_
    refine gl_ops 2 [(2, Pp b1 0), (29, .agg #[.int .i64 0, .int .i64 0, .slice none 0 0, .slice none 0 0]), (30, .iface 37 (.int .i64 91))] (by kernel_rfl) ?_
    refine gl_st (st_storeKA (vs := [.int .i64 0, .int .i64 0, .slice none 0 0, .slice none 0 0]) 0 rfl rfl rfl hH rfl rfl (by kernel_rfl) (by kernel_rfl) rfl (by simp) [.int .i64 0, .int .i64 0, .slice none 0 0, .slice none 0 0] rfl ?_)
    clear hH; intro w11 hH
    refine gl_ops 1 [(2, Pp b1 0), (3, .iface 37 (.int .i64 91))] (by kernel_rfl) ?_
    refine gl_dn rfl ?_
    refine sw_ret ?_
    refine thR ?_
    refine retC2 rfl (RS.cellA hH 0 (by kernel_rfl) rfl rfl (by kernel_rfl) [.int .i64 0, .int .i64 0, .slice none 0 0, .slice none 0 0] rfl rfl) (RS.tmp rfl) ?_
    have hr : readV b = (Snp.none, 91) := by unfold readV; rw [if_pos hg1]
    exact ⟨_, _, by rw [hr] <;> rfl, (((hH.sublist (List.nil_sublist _)).nilRow 5 1).nilRow 5 1).cast (by rw [hr] <;> rfl) |>.fresh⟩
  try simp only [bne_eq_false_iff_eq] at hg1
  refine gl_ops 2 [(2, Pp b1 0), (4, .slice A7 (((openF b).1).length) c8), (23, .bool false), (24, Ni ((openF b).2.1)), (25, .slice Ab b.length cb)] (by kernel_rfl) ?_
  refine gl_q rfl rfl rfl (rd_len (e := 5) (by kernel_rfl) rfl) ?_
  refine gl_ops 2 [(2, Pp b1 0), (4, .slice A7 (((openF b).1).length) c8), (28, .bool ((((openF b).2.1 : Nat) : Int) != ((b.length : Nat) : Int)))] (by kernel_rfl) ?_
  refine gl_dn rfl ?_
  refine sw_cond rfl rfl (fun hc3 => ?_) (fun hc3 => ?_)
  ·
    try simp only [bne_iff_ne, ne_eq] at hc3
    refine sw_sr ?_
    refine gl_ops 2 [(2, Pp b1 0), (29, .agg #[.int .i64 0, .int .i64 0, .slice none 0 0, .slice none 0 0]), (30, .iface 37 (.int .i64 91))] (by kernel_rfl) ?_
    refine gl_st (st_storeKA (vs := [.int .i64 0, .int .i64 0, .slice none 0 0, .slice none 0 0]) 0 rfl rfl rfl hH rfl rfl (by kernel_rfl) (by kernel_rfl) rfl (by simp) [.int .i64 0, .int .i64 0, .slice none 0 0, .slice none 0 0] rfl ?_)
    clear hH; intro w12 hH
    refine gl_ops 1 [(2, Pp b1 0), (3, .iface 37 (.int .i64 91))] (by kernel_rfl) ?_
    refine gl_dn rfl ?_
    refine sw_ret ?_
    refine thR ?_
    refine retC2 rfl (RS.cellA hH 0 (by kernel_rfl) rfl rfl (by kernel_rfl) [.int .i64 0, .int .i64 0, .slice none 0 0, .slice none 0 0] rfl rfl) (RS.tmp rfl) ?_
    have hr : readV b = (Snp.none, 91) := by unfold readV; rw [if_neg (by omega), if_pos (by omega)]
    exact ⟨_, _, by rw [hr] <;> rfl, (((hH.sublist (List.nil_sublist _)).nilRow 5 1).nilRow 5 1).cast (by rw [hr] <;> rfl) |>.fresh⟩
  try simp only [bne_eq_false_iff_eq] at hc3
  refine sw_skip ?_
  refine sw_next ?_
  refine sw_sr ?_
  refine gl_ops 1 [(2, Pp b1 0), (4, .slice A7 (((openF b).1).length) c8), (32, .slice A7 (((openF b).1).length) c8)] (by kernel_rfl) ?_
  refine gl_st (st_call rfl rfl rfl (by kernel_rfl) rfl (TakeNum_ct _ _ _ (rb_own hH 1 rfl)) ?_)
  rintro _ w13 ⟨rfl, hF14⟩
  replace hH := hH.call hF14; clear hF14
  refine gl_ops 7 [(2, Pp b1 0), (4, .slice A7 (((openF b).1).length) c8), (6, errV ((takeNum ((openF b).1)).2.2)), (7, Ni ((takeNum ((openF b).1)).1)), (8, Ni ((takeNum ((openF b).1)).2.1))] (by kernel_rfl) ?_
  refine gl_dn rfl ?_
  refine sw_sr ?_
  have hu1 := takeNum_used (openF b).1
  obtain ⟨A15, hk16, hv17⟩ := hH.row_win 1 rfl ((takeNum ((openF b).1)).2.1) (((openF b).1).length) c8 (by omega) (by omega) (by omega) (by omega)
  refine gl_ops 2 [(2, Pp b1 0), (4, .slice A7 (((openF b).1).length) c8), (6, errV ((takeNum ((openF b).1)).2.2)), (7, Ni ((takeNum ((openF b).1)).1)), (8, Ni ((takeNum ((openF b).1)).2.1)), (38, .slice A7 (((openF b).1).length) c8), (39, Ni ((takeNum ((openF b).1)).2.1))] (by kernel_rfl) ?_
  refine gl_q rfl rfl rfl (rd_cut (e := 5) (m := 1) (by kernel_rfl) (by kernel_rfl) rfl (.inr ⟨_, _, rfl, rfl⟩) (.inl ⟨rfl, rfl⟩) hk16) ?_
  refine gl_st (st_call rfl rfl rfl (by kernel_rfl) rfl (TakeNum_ct _ _ _ (RB.of_tail (Win.reads hH 1 rfl hv17 (by omega) (by omega) (by omega)))) ?_)
  rintro _ w18 ⟨rfl, hF19⟩
  replace hH := hH.call hF19; clear hF19
  refine gl_ops 7 [(2, Pp b1 0), (4, .slice A7 (((openF b).1).length) c8), (6, errV ((takeNum ((openF b).1)).2.2)), (7, Ni ((takeNum ((openF b).1)).1)), (8, Ni ((takeNum ((openF b).1)).2.1)), (9, Ni ((takeNum (((openF b).1).drop ((takeNum ((openF b).1)).2.1))).1)), (10, Ni ((takeNum (((openF b).1).drop ((takeNum ((openF b).1)).2.1))).2.1)), (11, errV ((takeNum (((openF b).1).drop ((takeNum ((openF b).1)).2.1))).2.2))] (by kernel_rfl) ?_
  refine gl_dn rfl ?_
  refine sw_sr ?_
  have hu2 := takeNum_used ((openF b).1.drop (takeNum (openF b).1).2.1)
  rw [List.length_drop] at hu2
  refine gl_ops 4 [(2, Pp b1 0), (4, .slice A7 (((openF b).1).length) c8), (6, errV ((takeNum ((openF b).1)).2.2)), (7, Ni ((takeNum ((openF b).1)).1)), (8, Ni ((takeNum ((openF b).1)).2.1)), (9, Ni ((takeNum (((openF b).1).drop ((takeNum ((openF b).1)).2.1))).1)), (10, Ni ((takeNum (((openF b).1).drop ((takeNum ((openF b).1)).2.1))).2.1)), (11, errV ((takeNum (((openF b).1).drop ((takeNum ((openF b).1)).2.1))).2.2)), (46, .slice A7 (((openF b).1).length) c8), (49, .int .i64 (IntKind.i64.wrap ((((takeNum ((openF b).1)).2.1 : Nat) : Int) + (((takeNum (((openF b).1).drop ((takeNum ((openF b).1)).2.1))).2.1 : Nat) : Int))))] (by kernel_rfl) ?_
  refine gl_cv 49 (Ni (((takeNum ((openF b).1)).2.1) + ((takeNum (((openF b).1).drop ((takeNum ((openF b).1)).2.1))).2.1))) (cv_i64 (by omega)) rfl ?_
  obtain ⟨A20, hk21, hv22⟩ := hH.row_win 1 rfl (((takeNum ((openF b).1)).2.1) + ((takeNum (((openF b).1).drop ((takeNum ((openF b).1)).2.1))).2.1)) (((openF b).1).length) c8 (by omega) (by omega) (by omega) (by omega)
  refine gl_q rfl rfl rfl (rd_cut (e := 5) (m := 1) (by kernel_rfl) (by kernel_rfl) rfl (.inr ⟨_, _, rfl, rfl⟩) (.inl ⟨rfl, rfl⟩) hk21) ?_
  refine gl_st (st_call rfl rfl rfl (by kernel_rfl) rfl (TakeBlob_ct _ _ _ (RB.of_tail (Win.reads hH 1 rfl hv22 (by omega) (by omega) (by omega)))) ?_)
  rintro _ w25 ⟨v23, rfl, hF26⟩
  replace hH := hH.call hF26; clear hF26
  obtain ⟨A27, c28, rfl, hl29, hm30⟩ := hH.row_form 2 rfl
  refine gl_ops 7 [(2, Pp b1 0), (4, .slice A7 (((openF b).1).length) c8), (6, errV ((takeNum ((openF b).1)).2.2)), (7, Ni ((takeNum ((openF b).1)).1)), (8, Ni ((takeNum ((openF b).1)).2.1)), (9, Ni ((takeNum (((openF b).1).drop ((takeNum ((openF b).1)).2.1))).1)), (10, Ni ((takeNum (((openF b).1).drop ((takeNum ((openF b).1)).2.1))).2.1)), (11, errV ((takeNum (((openF b).1).drop ((takeNum ((openF b).1)).2.1))).2.2)), (12, .slice A27 (((takeBlob (((openF b).1).drop (((takeNum ((openF b).1)).2.1) + ((takeNum (((openF b).1).drop ((takeNum ((openF b).1)).2.1))).2.1)))).1).length) c28), (13, Ni ((takeBlob (((openF b).1).drop (((takeNum ((openF b).1)).2.1) + ((takeNum (((openF b).1).drop ((takeNum ((openF b).1)).2.1))).2.1)))).2.1)), (14, errV ((takeBlob (((openF b).1).drop (((takeNum ((openF b).1)).2.1) + ((takeNum (((openF b).1).drop ((takeNum ((openF b).1)).2.1))).2.1)))).2.2))] (by kernel_rfl) ?_
  refine gl_dn rfl ?_
  refine sw_seq ?_
  refine sw_sr ?_
  refine gl_ops 3 [(2, Pp b1 0), (4, .slice A7 (((openF b).1).length) c8), (7, Ni ((takeNum ((openF b).1)).1)), (8, Ni ((takeNum ((openF b).1)).2.1)), (9, Ni ((takeNum (((openF b).1).drop ((takeNum ((openF b).1)).2.1))).1)), (10, Ni ((takeNum (((openF b).1).drop ((takeNum ((openF b).1)).2.1))).2.1)), (12, .slice A27 (((takeBlob (((openF b).1).drop (((takeNum ((openF b).1)).2.1) + ((takeNum (((openF b).1).drop ((takeNum ((openF b).1)).2.1))).2.1)))).1).length) c28), (13, Ni ((takeBlob (((openF b).1).drop (((takeNum ((openF b).1)).2.1) + ((takeNum (((openF b).1).drop ((takeNum ((openF b).1)).2.1))).2.1)))).2.1)), (55, errV ((takeNum ((openF b).1)).2.2)), (56, errV ((takeNum (((openF b).1).drop ((takeNum ((openF b).1)).2.1))).2.2)), (57, errV ((takeBlob (((openF b).1).drop (((takeNum ((openF b).1)).2.1) + ((takeNum (((openF b).1).drop ((takeNum ((openF b).1)).2.1))).2.1)))).2.2))] (by kernel_rfl) ?_
  refine gl_st (st_buildF (e := 30) (zv := .nilIface) (bytes := 16) rfl rfl rfl (by kernel_rfl) (by kernel_rfl) rfl (cs := [errV ((takeNum ((openF b).1)).2.2), errV ((takeNum (((openF b).1).drop ((takeNum ((openF b).1)).2.1))).2.2), errV ((takeBlob (((openF b).1).drop (((takeNum ((openF b).1)).2.1) + ((takeNum (((openF b).1).drop ((takeNum ((openF b).1)).2.1))).2.1)))).2.2)]) (by kernel_rfl) (by simp [errW_cells]) rfl hH ?_)
  clear hH; intro b31 w32 hH
  refine gl_st (st_call rfl rfl rfl (by kernel_rfl) rfl (Join_ct _ [(takeNum ((openF b).1)).2.2, (takeNum (((openF b).1).drop ((takeNum ((openF b).1)).2.1))).2.2, (takeBlob (((openF b).1).drop (((takeNum ((openF b).1)).2.1) + ((takeNum (((openF b).1).drop ((takeNum ((openF b).1)).2.1))).2.1)))).2.2] _ (hH.row_reads 3 rfl) (by simp)) ?_)
  rintro _ w34 ⟨b33, rfl, hF35⟩
  replace hH := hH.call hF35; clear hF35
  refine gl_q rfl rfl rfl (rd_if_ne (by kernel_rfl) rfl) ?_
  refine gl_dn rfl ?_
  refine sw_cond rfl rfl (fun hc4 => ?_) (fun hc4 => ?_)
  ·
    try simp only [Bool.not_eq_true', beq_eq_false_iff_ne, ne_eq] at hc4
    refine sw_sr ?_
    refine gl_ops 2 [(2, Pp b1 0), (61, .agg #[.int .i64 0, .int .i64 0, .slice none 0 0, .slice none 0 0]), (62, .iface 37 (.int .i64 91))] (by kernel_rfl) ?_
    refine gl_st (st_storeKA (vs := [.int .i64 0, .int .i64 0, .slice none 0 0, .slice none 0 0]) 0 rfl rfl rfl hH rfl rfl (by kernel_rfl) (by kernel_rfl) rfl (by simp) [.int .i64 0, .int .i64 0, .slice none 0 0, .slice none 0 0] rfl ?_)
    clear hH; intro w36 hH
    refine gl_ops 1 [(2, Pp b1 0), (3, .iface 37 (.int .i64 91))] (by kernel_rfl) ?_
    refine gl_dn rfl ?_
    refine sw_ret ?_
    refine thR ?_
    refine retC2 rfl (RS.cellA hH 0 (by kernel_rfl) rfl rfl (by kernel_rfl) [.int .i64 0, .int .i64 0, .slice none 0 0, .slice none 0 0] rfl rfl) (RS.tmp rfl) ?_
    have hr : readV b = (Snp.none, 91) := by unfold readV; rw [if_neg (by omega), if_neg (by omega)]; unfold readP; rw [if_neg (fun hh => by have h9 := (cnz3 _ _ _).2 hh; rw [beq_iff_eq] at h9; exact hc4 h9)]
    exact ⟨_, _, by rw [hr] <;> rfl, (((hH.sublist (List.nil_sublist _)).nilRow 5 1).nilRow 5 1).cast (by rw [hr] <;> rfl) |>.fresh⟩
  try simp only [Bool.not_eq_false', beq_iff_eq] at hc4
  refine sw_skip ?_
  refine sw_next ?_
  refine sw_sr ?_
  have hj := (cnz3 _ _ _).1 (by simpa using hc4)
  have hu3 := takeBlob_used ((openF b).1.drop ((takeNum (openF b).1).2.1 + (takeNum ((openF b).1.drop (takeNum (openF b).1).2.1)).2.1))
  rw [List.length_drop] at hu3
  have hol := openF_length b
  refine gl_ops 7 [(2, Pp b1 0), (13, Ni ((takeBlob (((openF b).1).drop (((takeNum ((openF b).1)).2.1) + ((takeNum (((openF b).1).drop ((takeNum ((openF b).1)).2.1))).2.1)))).2.1)), (63, Ni ((takeNum ((openF b).1)).1)), (64, Ni ((takeNum (((openF b).1).drop ((takeNum ((openF b).1)).2.1))).1)), (65, .slice A27 (((takeBlob (((openF b).1).drop (((takeNum ((openF b).1)).2.1) + ((takeNum (((openF b).1).drop ((takeNum ((openF b).1)).2.1))).2.1)))).1).length) c28), (66, .slice A7 (((openF b).1).length) c8), (69, .int .i64 (IntKind.i64.wrap ((((takeNum ((openF b).1)).2.1 : Nat) : Int) + (((takeNum (((openF b).1).drop ((takeNum ((openF b).1)).2.1))).2.1 : Nat) : Int))))] (by kernel_rfl) ?_
  refine gl_cv 69 (Ni (((takeNum ((openF b).1)).2.1) + ((takeNum (((openF b).1).drop ((takeNum ((openF b).1)).2.1))).2.1))) (cv_i64 (by omega)) rfl ?_
  refine gl_ops 2 [(2, Pp b1 0), (63, Ni ((takeNum ((openF b).1)).1)), (64, Ni ((takeNum (((openF b).1).drop ((takeNum ((openF b).1)).2.1))).1)), (65, .slice A27 (((takeBlob (((openF b).1).drop (((takeNum ((openF b).1)).2.1) + ((takeNum (((openF b).1).drop ((takeNum ((openF b).1)).2.1))).2.1)))).1).length) c28), (66, .slice A7 (((openF b).1).length) c8), (71, .int .i64 (IntKind.i64.wrap (((((takeNum ((openF b).1)).2.1) + ((takeNum (((openF b).1).drop ((takeNum ((openF b).1)).2.1))).2.1) : Nat) : Int) + (((takeBlob (((openF b).1).drop (((takeNum ((openF b).1)).2.1) + ((takeNum (((openF b).1).drop ((takeNum ((openF b).1)).2.1))).2.1)))).2.1 : Nat) : Int))))] (by kernel_rfl) ?_
  refine gl_cv 71 (Ni ((((takeNum ((openF b).1)).2.1) + ((takeNum (((openF b).1).drop ((takeNum ((openF b).1)).2.1))).2.1)) + ((takeBlob (((openF b).1).drop (((takeNum ((openF b).1)).2.1) + ((takeNum (((openF b).1).drop ((takeNum ((openF b).1)).2.1))).2.1)))).2.1))) (cv_i64 (by omega)) rfl ?_
  obtain ⟨A37, hk38, hv39⟩ := hH.row_win 1 rfl ((((takeNum ((openF b).1)).2.1) + ((takeNum (((openF b).1).drop ((takeNum ((openF b).1)).2.1))).2.1)) + ((takeBlob (((openF b).1).drop (((takeNum ((openF b).1)).2.1) + ((takeNum (((openF b).1).drop ((takeNum ((openF b).1)).2.1))).2.1)))).2.1)) (((openF b).1).length) c8 (by omega) (by omega) (by omega) (by omega)
  refine gl_q rfl rfl rfl (rd_cut (e := 5) (m := 1) (by kernel_rfl) (by kernel_rfl) rfl (.inr ⟨_, _, rfl, rfl⟩) (.inl ⟨rfl, rfl⟩) hk38) ?_
  refine gl_st (st_call rfl rfl rfl (by kernel_rfl) rfl (Clone_ct _ _ _ (RB.of_tail (Win.reads hH 1 rfl hv39 (by omega) (by omega) (by omega))) (by first | omega | (simp <;> omega))) ?_)
  rintro _ w42 ⟨v40, rfl, hF43⟩
  replace hH := hH.call hF43; clear hF43
  obtain ⟨A44, c45, rfl, hl46, hm47⟩ := hH.row_form 4 rfl
  refine gl_ops 1 [(2, Pp b1 0), (74, .agg #[Ni ((takeNum ((openF b).1)).1), Ni ((takeNum (((openF b).1).drop ((takeNum ((openF b).1)).2.1))).1), .slice A27 (((takeBlob (((openF b).1).drop (((takeNum ((openF b).1)).2.1) + ((takeNum (((openF b).1).drop ((takeNum ((openF b).1)).2.1))).2.1)))).1).length) c28, .slice A44 ((((openF b).1).drop ((((takeNum ((openF b).1)).2.1) + ((takeNum (((openF b).1).drop ((takeNum ((openF b).1)).2.1))).2.1)) + ((takeBlob (((openF b).1).drop (((takeNum ((openF b).1)).2.1) + ((takeNum (((openF b).1).drop ((takeNum ((openF b).1)).2.1))).2.1)))).2.1))).length) c45])] (by kernel_rfl) ?_
  refine gl_st (st_storeKA (vs := [Ni ((takeNum ((openF b).1)).1), Ni ((takeNum (((openF b).1).drop ((takeNum ((openF b).1)).2.1))).1), .slice A27 (((takeBlob (((openF b).1).drop (((takeNum ((openF b).1)).2.1) + ((takeNum (((openF b).1).drop ((takeNum ((openF b).1)).2.1))).2.1)))).1).length) c28, .slice A44 ((((openF b).1).drop ((((takeNum ((openF b).1)).2.1) + ((takeNum (((openF b).1).drop ((takeNum ((openF b).1)).2.1))).2.1)) + ((takeBlob (((openF b).1).drop (((takeNum ((openF b).1)).2.1) + ((takeNum (((openF b).1).drop ((takeNum ((openF b).1)).2.1))).2.1)))).2.1))).length) c45]) 0 rfl rfl rfl hH rfl rfl (by kernel_rfl) (by kernel_rfl) rfl (by simp) [Ni ((takeNum ((openF b).1)).1), Ni ((takeNum (((openF b).1).drop ((takeNum ((openF b).1)).2.1))).1), .slice A27 (((takeBlob (((openF b).1).drop (((takeNum ((openF b).1)).2.1) + ((takeNum (((openF b).1).drop ((takeNum ((openF b).1)).2.1))).2.1)))).1).length) c28, .slice A44 ((((openF b).1).drop ((((takeNum ((openF b).1)).2.1) + ((takeNum (((openF b).1).drop ((takeNum ((openF b).1)).2.1))).2.1)) + ((takeBlob (((openF b).1).drop (((takeNum ((openF b).1)).2.1) + ((takeNum (((openF b).1).drop ((takeNum ((openF b).1)).2.1))).2.1)))).2.1))).length) c45] rfl ?_)
  clear hH; intro w48 hH
  refine gl_ops 1 [(2, Pp b1 0), (3, .nilIface)] (by kernel_rfl) ?_
  refine gl_dn rfl ?_
  refine sw_ret ?_
  refine retC2 rfl (RS.cellA hH 0 (by kernel_rfl) rfl rfl (by kernel_rfl) [Ni ((takeNum ((openF b).1)).1), Ni ((takeNum (((openF b).1).drop ((takeNum ((openF b).1)).2.1))).1), .slice A27 (((takeBlob (((openF b).1).drop (((takeNum ((openF b).1)).2.1) + ((takeNum (((openF b).1).drop ((takeNum ((openF b).1)).2.1))).2.1)))).1).length) c28, .slice A44 ((((openF b).1).drop ((((takeNum ((openF b).1)).2.1) + ((takeNum (((openF b).1).drop ((takeNum ((openF b).1)).2.1))).2.1)) + ((takeBlob (((openF b).1).drop (((takeNum ((openF b).1)).2.1) + ((takeNum (((openF b).1).drop ((takeNum ((openF b).1)).2.1))).2.1)))).2.1))).length) c45] rfl rfl) (RS.tmp rfl) ?_
  have hr : readV b = readP (openF b).1 := by unfold readV; rw [if_neg (by omega), if_neg (by omega)]
  unfold readP at hr
  rw [if_pos hj] at hr
  exact ⟨_, _, by rw [hr] <;> rfl, ((hH.sublist (.cons _ (.cons _ (.cons_cons _ (.cons _ (.cons_cons _ (List.nil_sublist _))))))).cast (by rw [hr] <;> rfl)).fresh⟩
theorem Split_ct (i t : Int) (vc vd : Value) (cf dt : List UInt8) (w : World) (hc : RB w.cell? vc cf) (hd : RB w.cell? vd dt) (hi : -9223372036854775808 ≤ i ∧ i ≤ 9223372036854775807) (ht : -9223372036854775808 ≤ t ∧ t ≤ 9223372036854775807) (hdl : dt.length ≤ 140737488355328) :
    Fun Tryz.prog 23 [.agg #[.int .i64 i, .int .i64 t, vc, vd]] w fun v w' => ∃ v1 vs, v = .tuple #[v1, errV (splitE i t cf dt)] ∧ vs.length = nch (splitB i t cf dt).length ∧ Fresh w w' [.row v1 63 5 vs.length (partsC i t vs.length vs), .grp (partOwn 5 (splitB i t cf dt) vs)] := by
  obtain ⟨Ac, cc, rfl, hc1, hc2⟩ := hc.row.form
  obtain ⟨Ad, cd, rfl, hd1, hd2⟩ := hd.row.form
  have hbl := bytesV_length_le i t cf dt
  refine fun_of_sw Tryz.func23 rfl 47 rfl rfl ?_
  have hH := Hp.start w
  refine sw_sr ?_
  refine gl_st (st_boxH (cs := [.int .i64 i, .int .i64 t, .slice Ac cf.length cc, .slice Ad dt.length cd]) rfl rfl rfl rfl hH ?_)
  clear hH; intro b1 w2 hH
  refine gl_ops 2 [(1, Pp b1 0)] (by kernel_rfl) ?_
  refine gl_dn rfl ?_
  refine sw_sr ?_
  refine gl_q rfl rfl rfl (rd_loadKA (m := 4) 0 (by kernel_rfl) hH rfl rfl (by kernel_rfl) [.int .i64 i, .int .i64 t, .slice Ac cf.length cc, .slice Ad dt.length cd] rfl rfl) ?_
  refine gl_st (st_call rfl rfl rfl (by kernel_rfl) rfl (Bytes_ct _ _ _ _ _ _ _ (hc.mono hH.zin) (hd.mono hH.zin) (by omega) (by omega) (by omega)) ?_)
  rintro _ w5 ⟨v3, rfl, hF6⟩
  replace hH := hH.call hF6; clear hF6
  obtain ⟨A7, c8, rfl, hl9, hm10⟩ := hH.row_form 1 rfl
  refine gl_ops 5 [(1, Pp b1 0), (4, .slice A7 (((bytesV i t cf dt).1).length) c8), (5, errV ((bytesV i t cf dt).2))] (by kernel_rfl) ?_
  refine gl_dn rfl ?_
  refine sw_seq ?_
  refine sw_sr ?_
  refine gl_ops 1 [(1, Pp b1 0), (4, .slice A7 (((bytesV i t cf dt).1).length) c8), (5, errV ((bytesV i t cf dt).2)), (15, errV ((bytesV i t cf dt).2))] (by kernel_rfl) ?_
  refine gl_q rfl rfl rfl (rd_err_ne (by kernel_rfl) rfl) ?_
  refine gl_dn rfl ?_
  refine sw_cond rfl rfl (fun hc1 => ?_) (fun hc1 => ?_)
  ·
    try simp only [bne_iff_ne, ne_eq] at hc1
    refine sw_sr ?_
    refine gl_ops 3 [(2, .slice none 0 0), (3, errV ((bytesV i t cf dt).2))] (by kernel_rfl) ?_
    refine gl_dn rfl ?_
    refine sw_ret ?_
    refine thR ?_
    refine ret2 rfl rfl rfl  ?_
    exact ⟨_, [], by rw [(bytesV_err hc1).1] <;> rfl, by rw [(bytesV_err hc1).2] <;> rfl, (((hH.sublist (List.nil_sublist _)).nilRow 63 5).nogrp).fresh⟩
  try simp only [bne_eq_false_iff_eq] at hc1
  refine sw_skip ?_
  refine sw_next ?_
  refine sw_sr ?_
  refine gl_ops 1 [(1, Pp b1 0), (18, .slice A7 (((bytesV i t cf dt).1).length) c8)] (by kernel_rfl) ?_
  refine gl_st (st_call rfl rfl rfl (by kernel_rfl) rfl (Chunk_ct _ _ _ (rb_own hH 1 rfl)) ?_)
  rintro _ w15 ⟨b11, b12, rfl, hF16⟩
  replace hH := hH.call hF16; clear hF16
  refine gl_st (st_call rfl rfl rfl (by kernel_rfl) rfl (Collect_ct _ _ _ _ ((bytesV i t cf dt).1) _ (rb_own hH 1 rfl) (by omega) (hH.blk_cell 2 rfl rfl) (hH.blk_cell 3 rfl rfl)) ?_)
  rintro _ w19 ⟨v18, rfl, hF20⟩
  replace hH := hH.call hF20; clear hF20
  obtain ⟨A21, c22, rfl, hl23, hm24⟩ := hH.row_form 4 rfl
  refine gl_ops 1 [(1, Pp b1 0), (6, .slice A21 (nch ((bytesV i t cf dt).1).length) c22)] (by kernel_rfl) ?_
  refine gl_dn rfl ?_
  refine sw_seq ?_
  refine sw_sr ?_
  refine gl_ops 1 [(1, Pp b1 0), (6, .slice A21 (nch ((bytesV i t cf dt).1).length) c22), (21, .slice A21 (nch ((bytesV i t cf dt).1).length) c22)] (by kernel_rfl) ?_
  refine gl_q rfl rfl rfl (rd_len (e := 22) (by kernel_rfl) rfl) ?_
  refine gl_ops 1 [(1, Pp b1 0), (6, .slice A21 (nch ((bytesV i t cf dt).1).length) c22), (23, .bool (decide (((nch ((bytesV i t cf dt).1).length : Nat) : Int) > (1024 : Int))))] (by kernel_rfl) ?_
  refine gl_dn rfl ?_
  refine sw_cond rfl rfl (fun hc2 => ?_) (fun hc2 => ?_)
  ·
    try simp only [decide_eq_true_eq] at hc2
    refine sw_sr ?_
    refine gl_ops 3 [(2, .slice none 0 0), (3, .iface 37 (.int .i64 2))] (by kernel_rfl) ?_
    refine gl_dn rfl ?_
    refine sw_ret ?_
    refine thR ?_
    refine ret2 rfl rfl rfl  ?_
    exact ⟨_, [], by rw [(split_long (by omega) (by omega)).1] <;> rfl, by rw [(split_long (by omega) (by omega)).2] <;> rfl, (((hH.sublist (List.nil_sublist _)).nilRow 63 5).nogrp).fresh⟩
  try simp only [decide_eq_false_iff_not, Int.not_lt, Int.not_le] at hc2
  refine sw_skip ?_
  refine sw_next ?_
  refine sw_sr ?_
  refine gl_ops 1 [(1, Pp b1 0), (6, .slice A21 (nch ((bytesV i t cf dt).1).length) c22), (7, .slice none 0 0)] (by kernel_rfl) ?_
  replace hH := hH.nilRow 63 5
  replace hH := hH.nogrp
  refine gl_dn rfl ?_
  refine sw_seq ?_
  refine sw_sr ?_
  refine gl_ops 1 [(1, Pp b1 0), (6, .slice A21 (nch ((bytesV i t cf dt).1).length) c22), (7, .slice none 0 0), (25, .slice A21 (nch ((bytesV i t cf dt).1).length) c22)] (by kernel_rfl) ?_
  refine gl_q rfl rfl rfl (rd_len (e := 22) (by kernel_rfl) rfl) ?_
  refine gl_ops 1 [(1, Pp b1 0), (6, .slice A21 (nch ((bytesV i t cf dt).1).length) c22), (7, .slice none 0 0), (25, .slice A21 (nch ((bytesV i t cf dt).1).length) c22), (26, Ni (nch ((bytesV i t cf dt).1).length)), (27, .int .i64 0)] (by kernel_rfl) ?_
  refine gl_dn rfl ?_
  refine sw_block ?_
  refine sw_loop (γ := List Value × Option Addr × Nat) (fun (vs, A, c) => [(1, Pp b1 0), (6, .slice A21 (nch ((bytesV i t cf dt).1).length) c22), (7, .slice A vs.length c), (25, .slice A21 (nch ((bytesV i t cf dt).1).length) c22), (26, Ni (nch ((bytesV i t cf dt).1).length)), (27, Ni vs.length)]) (fun (vs, A, c) w_ => (vs.length ≤ nch (bytesV i t cf dt).1.length) ∧ Hp w w_ (w.cell?) [] [.blk b1 24 [.int .i64 i, .int .i64 t, .slice Ac cf.length cc, .slice Ad dt.length cd], .row (.slice A7 (((bytesV i t cf dt).1).length) c8) 5 1 (((bytesV i t cf dt).1).length) (bv ((bytesV i t cf dt).1)), .row (.slice A21 (nch ((bytesV i t cf dt).1).length) c22) 22 1 (nch ((bytesV i t cf dt).1).length) ((List.range (nch ((bytesV i t cf dt).1).length)).map fun k => slv (chunkV A7 ((bytesV i t cf dt).1).length k)), .row (.slice A (vs.length) c) 63 5 vs.length (partsC i t (nch (bytesV i t cf dt).1.length) vs), .grp (partOwn 5 (bytesV i t cf dt).1 vs)]) (fun (vs, A, c) => nch (bytesV i t cf dt).1.length - vs.length) ([], none, 0) (Sub.of_eq (by kernel_rfl)) ?_ ?_
  · exact ⟨by simp, ((hH.pick [0, 1, 4, 5, 6, 2, 3] rfl (os' := [.blk b1 24 [.int .i64 i, .int .i64 t, .slice Ac cf.length cc, .slice Ad dt.length cd], .row (.slice A7 (((bytesV i t cf dt).1).length) c8) 5 1 (((bytesV i t cf dt).1).length) (bv ((bytesV i t cf dt).1)), .row (.slice A21 (nch ((bytesV i t cf dt).1).length) c22) 22 1 (nch ((bytesV i t cf dt).1).length) ((List.range (nch ((bytesV i t cf dt).1).length)).map fun k => slv (chunkV A7 ((bytesV i t cf dt).1).length k)), .row (.slice none 0 0) 63 5 0 [], .grp [], .blk b11 22 [.slice A7 (((bytesV i t cf dt).1).length) c8], .blk b12 3 [.int .i64 512]]) rfl).sublist (.cons_cons _ (.cons_cons _ (.cons_cons _ (.cons_cons _ (.cons_cons _ (List.nil_sublist _)))))))⟩
  clear hH
  rintro ⟨vs, A, c⟩ w25 ⟨hvs, hH⟩
  refine sw_keep [(1, Pp b1 0), (6, .slice A21 (nch ((bytesV i t cf dt).1).length) c22), (7, .slice A vs.length c), (25, .slice A21 (nch ((bytesV i t cf dt).1).length) c22), (26, Ni (nch ((bytesV i t cf dt).1).length)), (27, Ni vs.length)] (by kernel_rfl) ?_
  refine sw_sr ?_
  refine gl_ops 1 [(1, Pp b1 0), (6, .slice A21 (nch ((bytesV i t cf dt).1).length) c22), (7, .slice A vs.length c), (25, .slice A21 (nch ((bytesV i t cf dt).1).length) c22), (26, Ni (nch ((bytesV i t cf dt).1).length)), (27, Ni vs.length), (28, .bool (decide (((vs.length : Nat) : Int) < ((nch ((bytesV i t cf dt).1).length : Nat) : Int))))] (by kernel_rfl) ?_
  refine gl_dn rfl ?_
  refine sw_seq ?_
  refine sw_cond rfl rfl (fun hc3 => ?_) (fun hc3 => ?_)
  ·
    try simp only [decide_eq_true_eq] at hc3
    refine sw_skip ?_
    refine sw_next ?_
    refine sw_seq ?_
    refine sw_block ?_
    refine sw_sr ?_
    obtain ⟨b27, hb26, hi28⟩ := hH.row_idx 2 rfl vs.length (by omega)
    refine gl_ops 1 [(1, Pp b1 0), (6, .slice A21 (nch ((bytesV i t cf dt).1).length) c22), (7, .slice A vs.length c), (25, .slice A21 (nch ((bytesV i t cf dt).1).length) c22), (26, Ni (nch ((bytesV i t cf dt).1).length)), (27, Ni vs.length), (29, Ni vs.length)] (by kernel_rfl) ?_
    refine gl_q rfl rfl rfl (rd_idx (e := 22) (m := 1) (by kernel_rfl) (by kernel_rfl) rfl rfl hi28) ?_
    refine gl_q rfl rfl rfl (rd_loadO 2 (by kernel_rfl) hH rfl rfl hb26 (chunkRow_get _ _ _ _ (by omega))) ?_
    refine gl_ops 2 [(1, Pp b1 0), (6, .slice A21 (nch ((bytesV i t cf dt).1).length) c22), (7, .slice A vs.length c), (8, Ni vs.length), (9, slv (chunkV A7 ((bytesV i t cf dt).1).length vs.length)), (25, .slice A21 (nch ((bytesV i t cf dt).1).length) c22), (26, Ni (nch ((bytesV i t cf dt).1).length)), (27, Ni vs.length)] (by kernel_rfl) ?_
    refine gl_dn rfl ?_
    have hcl := chunkB_length (bytesV i t cf dt).1 vs.length
    refine sw_draw (by kernel_rfl) (fun w_ => Hp w w_ (w.cell?) [] [.blk b1 24 [.int .i64 i, .int .i64 t, .slice Ac cf.length cc, .slice Ad dt.length cd], .row (.slice A7 (((bytesV i t cf dt).1).length) c8) 5 1 (((bytesV i t cf dt).1).length) (bv ((bytesV i t cf dt).1)), .row (.slice A21 (nch ((bytesV i t cf dt).1).length) c22) 22 1 (nch ((bytesV i t cf dt).1).length) ((List.range (nch ((bytesV i t cf dt).1).length)).map fun k => slv (chunkV A7 ((bytesV i t cf dt).1).length k)), .grp (partOwn 5 (bytesV i t cf dt).1 vs)]) ?_
    replace hH := hH.drew
    generalize { w25 with drawn := w25.drawn + 1 } = w29 at hH ⊢
    have hS9 := hH.sublist (.cons_cons _ (.cons_cons _ (.cons_cons _ (.cons _ (.cons_cons _ (List.nil_sublist _))))))
    refine gd_pure 0 rfl (by kernel_rfl) (PQ.bk (PQ.th (PQ.th (PQ.bk (PQ.th PQ.body))))) hS9 rfl rfl (.slice A vs.length c) (by kernel_rfl) ?_
    refine gd_pure 1 rfl (by kernel_rfl) (PQ.bk (PQ.th (PQ.th (PQ.bk (PQ.th PQ.body))))) hS9 rfl rfl (Pp b1 0) (by kernel_rfl) ?_
    refine gd_q 2 rfl (by kernel_rfl) (PQ.bk (PQ.th (PQ.th (PQ.bk (PQ.th PQ.body))))) hS9 rfl rfl (fun w_ hS => (rd_loadK 0 (by kernel_rfl) hS rfl rfl rfl)) ?_
    refine gd_keep [(1, Pp b1 0), (6, .slice A21 (nch ((bytesV i t cf dt).1).length) c22), (7, .slice A vs.length c), (8, Ni vs.length), (9, slv (chunkV A7 ((bytesV i t cf dt).1).length vs.length)), (25, .slice A21 (nch ((bytesV i t cf dt).1).length) c22), (26, Ni (nch ((bytesV i t cf dt).1).length)), (27, Ni vs.length), (32, .slice A vs.length c), (34, .int .i64 i)] (by kernel_rfl) ?_
    refine gd_pure 3 rfl (by kernel_rfl) (PQ.bk (PQ.th (PQ.th (PQ.bk (PQ.th PQ.body))))) hS9 rfl rfl (Pp b1 1) (by kernel_rfl) ?_
    refine gd_q 4 rfl (by kernel_rfl) (PQ.bk (PQ.th (PQ.th (PQ.bk (PQ.th PQ.body))))) hS9 rfl rfl (fun w_ hS => (rd_loadK 0 (by kernel_rfl) hS rfl rfl rfl)) ?_
    refine gd_pure 5 rfl (by kernel_rfl) (PQ.bk (PQ.th (PQ.th (PQ.bk (PQ.th PQ.body))))) hS9 rfl rfl (Ni vs.length) (by kernel_rfl) ?_
    refine gd_keep [(1, Pp b1 0), (6, .slice A21 (nch ((bytesV i t cf dt).1).length) c22), (7, .slice A vs.length c), (9, slv (chunkV A7 ((bytesV i t cf dt).1).length vs.length)), (25, .slice A21 (nch ((bytesV i t cf dt).1).length) c22), (26, Ni (nch ((bytesV i t cf dt).1).length)), (27, Ni vs.length), (32, .slice A vs.length c), (34, .int .i64 i), (36, .int .i64 t), (37, Ni vs.length)] (by kernel_rfl) ?_
    refine gd_pure 6 rfl (by kernel_rfl) (PQ.bk (PQ.th (PQ.th (PQ.bk (PQ.th PQ.body))))) hS9 rfl rfl (.slice A21 (nch ((bytesV i t cf dt).1).length) c22) (by kernel_rfl) ?_
    refine gd_q 7 rfl (by kernel_rfl) (PQ.bk (PQ.th (PQ.th (PQ.bk (PQ.th PQ.body))))) hS9 rfl rfl (fun w_ hS => (rd_len (e := 22) (by kernel_rfl) rfl)) ?_
    refine gd_pure 8 rfl (by kernel_rfl) (PQ.bk (PQ.th (PQ.th (PQ.bk (PQ.th PQ.body))))) hS9 rfl rfl (slv (chunkV A7 ((bytesV i t cf dt).1).length vs.length)) (by kernel_rfl) ?_
    refine gd_keep [(1, Pp b1 0), (6, .slice A21 (nch ((bytesV i t cf dt).1).length) c22), (7, .slice A vs.length c), (25, .slice A21 (nch ((bytesV i t cf dt).1).length) c22), (26, Ni (nch ((bytesV i t cf dt).1).length)), (27, Ni vs.length), (32, .slice A vs.length c), (34, .int .i64 i), (36, .int .i64 t), (37, Ni vs.length), (39, Ni (nch ((bytesV i t cf dt).1).length)), (40, slv (chunkV A7 ((bytesV i t cf dt).1).length vs.length))] (by kernel_rfl) ?_
    refine gd_st 9 (by kernel_rfl) (st_call rfl rfl rfl (by kernel_rfl) rfl (Clone_ct _ _ _ (chunk_rb (rb_own hH 1 rfl) (by unfold nch at *; omega)) (by first | omega | (simp <;> omega))) ?_)
    rintro _ w32 ⟨v30, rfl, hF33⟩
    replace hH := hH.call hF33; clear hF33
    obtain ⟨A34, c35, rfl, hl36, hm37⟩ := hH.row_form 5 rfl
    replace hS9 := hH.sublist (.cons_cons _ (.cons_cons _ (.cons_cons _ (.cons _ (.cons_cons _ (List.nil_sublist _))))))
    refine ⟨hS9, ?_⟩
    refine gd_keep [(1, Pp b1 0), (6, .slice A21 (nch ((bytesV i t cf dt).1).length) c22), (7, .slice A vs.length c), (25, .slice A21 (nch ((bytesV i t cf dt).1).length) c22), (26, Ni (nch ((bytesV i t cf dt).1).length)), (27, Ni vs.length), (32, .slice A vs.length c), (34, .int .i64 i), (36, .int .i64 t), (37, Ni vs.length), (39, Ni (nch ((bytesV i t cf dt).1).length)), (41, .slice A34 ((chunkB ((bytesV i t cf dt).1) vs.length).length) c35)] (by kernel_rfl) ?_
    refine gd_pure 10 rfl (by kernel_rfl) (PQ.bk (PQ.th (PQ.th (PQ.bk (PQ.th PQ.body))))) hS9 rfl rfl (.agg #[.int .i64 i, .int .i64 t, Ni vs.length, Ni (nch ((bytesV i t cf dt).1).length), .slice A34 ((chunkB ((bytesV i t cf dt).1) vs.length).length) c35]) (by kernel_rfl) ?_
    refine gd_st 11 (by kernel_rfl) (st_buildS (e := 63) (zv := .agg #[.int .i64 0, .int .i64 0, .int .i64 0, .int .i64 0, .slice none 0 0]) (m := 5) (bytes := 56) rfl rfl rfl (by kernel_rfl) (by kernel_rfl) rfl (cs := [.int .i64 i, .int .i64 t, Ni vs.length, Ni (nch ((bytesV i t cf dt).1).length), .slice A34 ((chunkB ((bytesV i t cf dt).1) vs.length).length) c35]) (by kernel_rfl) rfl hH ?_)
    clear hH; intro b38 w39 hH
    replace hH : Hp w w39 _ _ [.blk b1 24 [.int .i64 i, .int .i64 t, .slice Ac cf.length cc, .slice Ad dt.length cd], .row (.slice A7 (((bytesV i t cf dt).1).length) c8) 5 1 (((bytesV i t cf dt).1).length) (bv ((bytesV i t cf dt).1)), .row (.slice A21 (nch ((bytesV i t cf dt).1).length) c22) 22 1 (nch ((bytesV i t cf dt).1).length) ((List.range (nch ((bytesV i t cf dt).1).length)).map fun k => slv (chunkV A7 ((bytesV i t cf dt).1).length k)), .row (.slice A (vs.length) c) 63 5 vs.length (partsC i t (nch (bytesV i t cf dt).1.length) vs), .grp (partOwn 5 (bytesV i t cf dt).1 vs), .row (.slice A34 ((chunkB ((bytesV i t cf dt).1) vs.length).length) c35) 5 1 ((chunkB ((bytesV i t cf dt).1) vs.length).length) (bv (chunkB ((bytesV i t cf dt).1) vs.length)), .row (.slice (some ⟨b38, 0, none⟩) 1 1) 63 5 1 [.int .i64 i, .int .i64 t, Ni vs.length, Ni (nch ((bytesV i t cf dt).1).length), .slice A34 ((chunkB ((bytesV i t cf dt).1) vs.length).length) c35]] := hH
    replace hS9 := hH.sublist (.cons_cons _ (.cons_cons _ (.cons_cons _ (.cons _ (.cons_cons _ (List.nil_sublist _))))))
    refine ⟨hS9, ?_⟩
    refine gd_keep [(1, Pp b1 0), (6, .slice A21 (nch ((bytesV i t cf dt).1).length) c22), (7, .slice A vs.length c), (25, .slice A21 (nch ((bytesV i t cf dt).1).length) c22), (26, Ni (nch ((bytesV i t cf dt).1).length)), (27, Ni vs.length), (32, .slice A vs.length c), (43, .slice (some ⟨b38, 0, none⟩) 1 1)] (by kernel_rfl) ?_
    refine gd_st 12 (by kernel_rfl) (st_appH (e := 63) (zv := .agg #[.int .i64 0, .int .i64 0, .int .i64 0, .int .i64 0, .slice none 0 0]) (m := 5) (bytes := 56) 3 rfl rfl rfl (by kernel_rfl) (by kernel_rfl) rfl (by decide) hH rfl rfl rfl (hH.row_reads 6 rfl) (by simp [Value.oneCell']) (by unfold maxLen; omega) (by omega) ?_)
    clear hH; intro v40 w41 hH
    replace hH := hH.row_eq 3 (l' := (vs ++ [(Value.slice A34 ((chunkB ((bytesV i t cf dt).1) vs.length).length) c35)]).length) (xs' := partsC i t (nch (bytesV i t cf dt).1.length) (vs ++ [(Value.slice A34 ((chunkB ((bytesV i t cf dt).1) vs.length).length) c35)])) rfl (by rw [List.length_append]; rfl) ((partsC_snoc _ _ _ _ _).symm)
    obtain ⟨A42, c43, rfl, hl44, hm45⟩ := hH.row_form 3 rfl
    replace hH : Hp w w41 _ _ [.blk b1 24 [.int .i64 i, .int .i64 t, .slice Ac cf.length cc, .slice Ad dt.length cd], .row (.slice A7 (((bytesV i t cf dt).1).length) c8) 5 1 (((bytesV i t cf dt).1).length) (bv ((bytesV i t cf dt).1)), .row (.slice A21 (nch ((bytesV i t cf dt).1).length) c22) 22 1 (nch ((bytesV i t cf dt).1).length) ((List.range (nch ((bytesV i t cf dt).1).length)).map fun k => slv (chunkV A7 ((bytesV i t cf dt).1).length k)), .row (.slice A42 ((vs ++ [(Value.slice A34 ((chunkB ((bytesV i t cf dt).1) vs.length).length) c35)]).length) c43) 63 5 ((vs ++ [(Value.slice A34 ((chunkB ((bytesV i t cf dt).1) vs.length).length) c35)]).length) (partsC i t (nch (bytesV i t cf dt).1.length) (vs ++ [(Value.slice A34 ((chunkB ((bytesV i t cf dt).1) vs.length).length) c35)])), .grp (partOwn 5 (bytesV i t cf dt).1 vs), .row (.slice A34 ((chunkB ((bytesV i t cf dt).1) vs.length).length) c35) 5 1 ((chunkB ((bytesV i t cf dt).1) vs.length).length) (bv (chunkB ((bytesV i t cf dt).1) vs.length)), .row (.slice (some ⟨b38, 0, none⟩) 1 1) 63 5 1 [.int .i64 i, .int .i64 t, Ni vs.length, Ni (nch ((bytesV i t cf dt).1).length), .slice A34 ((chunkB ((bytesV i t cf dt).1) vs.length).length) c35]] := hH
    replace hS9 := hH.sublist (.cons_cons _ (.cons_cons _ (.cons_cons _ (.cons _ (.cons_cons _ (List.nil_sublist _))))))
    refine ⟨hS9, ?_⟩
    refine gd_keep [(1, Pp b1 0), (6, .slice A21 (nch ((bytesV i t cf dt).1).length) c22), (7, .slice A vs.length c), (25, .slice A21 (nch ((bytesV i t cf dt).1).length) c22), (26, Ni (nch ((bytesV i t cf dt).1).length)), (27, Ni vs.length), (44, .slice A42 ((vs ++ [(Value.slice A34 ((chunkB ((bytesV i t cf dt).1) vs.length).length) c35)]).length) c43)] (by kernel_rfl) ?_
    refine gd_pure 13 rfl (by kernel_rfl) (PQ.bk (PQ.th (PQ.th (PQ.bk (PQ.th PQ.body))))) hS9 rfl rfl (.slice A42 ((vs ++ [(Value.slice A34 ((chunkB ((bytesV i t cf dt).1) vs.length).length) c35)]).length) c43) (by kernel_rfl) ?_
    refine gd_done (by kernel_rfl) ?_
    refine at_sub [(1, Pp b1 0), (6, .slice A21 (nch ((bytesV i t cf dt).1).length) c22), (7, .slice A42 ((vs ++ [(Value.slice A34 ((chunkB ((bytesV i t cf dt).1) vs.length).length) c35)]).length) c43), (25, .slice A21 (nch ((bytesV i t cf dt).1).length) c22), (26, Ni (nch ((bytesV i t cf dt).1).length)), (27, Ni vs.length)] (Sub.of_eq (by kernel_rfl)) ?_
    refine bkN ?_
    refine sw_next ?_
    replace hH := hH.pick [4, 5, 0, 1, 2, 3, 6] (by kernel_rfl) (os' := [.grp (partOwn 5 (bytesV i t cf dt).1 vs), .row (.slice A34 ((chunkB ((bytesV i t cf dt).1) vs.length).length) c35) 5 1 ((chunkB ((bytesV i t cf dt).1) vs.length).length) (bv (chunkB ((bytesV i t cf dt).1) vs.length)), .blk b1 24 [.int .i64 i, .int .i64 t, .slice Ac cf.length cc, .slice Ad dt.length cd], .row (.slice A7 (((bytesV i t cf dt).1).length) c8) 5 1 (((bytesV i t cf dt).1).length) (bv ((bytesV i t cf dt).1)), .row (.slice A21 (nch ((bytesV i t cf dt).1).length) c22) 22 1 (nch ((bytesV i t cf dt).1).length) ((List.range (nch ((bytesV i t cf dt).1).length)).map fun k => slv (chunkV A7 ((bytesV i t cf dt).1).length k)), .row (.slice A42 ((vs ++ [(Value.slice A34 ((chunkB ((bytesV i t cf dt).1) vs.length).length) c35)]).length) c43) 63 5 ((vs ++ [(Value.slice A34 ((chunkB ((bytesV i t cf dt).1) vs.length).length) c35)]).length) (partsC i t (nch (bytesV i t cf dt).1.length) (vs ++ [(Value.slice A34 ((chunkB ((bytesV i t cf dt).1) vs.length).length) c35)])), .row (.slice (some ⟨b38, 0, none⟩) 1 1) 63 5 1 [.int .i64 i, .int .i64 t, Ni vs.length, Ni (nch ((bytesV i t cf dt).1).length), .slice A34 ((chunkB ((bytesV i t cf dt).1) vs.length).length) c35]]) (by kernel_rfl)
    replace hH := hH.merge
    replace hH := hH.cast (os' := [.grp (partOwn 5 (bytesV i t cf dt).1 (vs ++ [(Value.slice A34 ((chunkB ((bytesV i t cf dt).1) vs.length).length) c35)])), .blk b1 24 [.int .i64 i, .int .i64 t, .slice Ac cf.length cc, .slice Ad dt.length cd], .row (.slice A7 (((bytesV i t cf dt).1).length) c8) 5 1 (((bytesV i t cf dt).1).length) (bv ((bytesV i t cf dt).1)), .row (.slice A21 (nch ((bytesV i t cf dt).1).length) c22) 22 1 (nch ((bytesV i t cf dt).1).length) ((List.range (nch ((bytesV i t cf dt).1).length)).map fun k => slv (chunkV A7 ((bytesV i t cf dt).1).length k)), .row (.slice A42 ((vs ++ [(Value.slice A34 ((chunkB ((bytesV i t cf dt).1) vs.length).length) c35)]).length) c43) 63 5 ((vs ++ [(Value.slice A34 ((chunkB ((bytesV i t cf dt).1) vs.length).length) c35)]).length) (partsC i t (nch (bytesV i t cf dt).1.length) (vs ++ [(Value.slice A34 ((chunkB ((bytesV i t cf dt).1) vs.length).length) c35)])), .row (.slice (some ⟨b38, 0, none⟩) 1 1) 63 5 1 [.int .i64 i, .int .i64 t, Ni vs.length, Ni (nch ((bytesV i t cf dt).1).length), .slice A34 ((chunkB ((bytesV i t cf dt).1) vs.length).length) c35]]) (by rw [partOwn_snoc])
    refine sw_region ?_
    refine gl_ops 1 [(1, Pp b1 0), (6, .slice A21 (nch ((bytesV i t cf dt).1).length) c22), (7, .slice A42 ((vs ++ [(Value.slice A34 ((chunkB ((bytesV i t cf dt).1) vs.length).length) c35)]).length) c43), (25, .slice A21 (nch ((bytesV i t cf dt).1).length) c22), (26, Ni (nch ((bytesV i t cf dt).1).length)), (45, .int .i64 (IntKind.i64.wrap (((vs.length : Nat) : Int) + 1)))] (by kernel_rfl) ?_
    refine gl_cv 45 (Ni ((vs ++ [(Value.slice A34 ((chunkB ((bytesV i t cf dt).1) vs.length).length) c35)]).length)) (by rw [List.length_append]; exact cv_i64 (by simp only [List.length_cons, List.length_nil]; omega)) rfl ?_
    refine gl_ops 1 [(1, Pp b1 0), (6, .slice A21 (nch ((bytesV i t cf dt).1).length) c22), (7, .slice A42 ((vs ++ [(Value.slice A34 ((chunkB ((bytesV i t cf dt).1) vs.length).length) c35)]).length) c43), (25, .slice A21 (nch ((bytesV i t cf dt).1).length) c22), (26, Ni (nch ((bytesV i t cf dt).1).length)), (27, Ni ((vs ++ [(Value.slice A34 ((chunkB ((bytesV i t cf dt).1) vs.length).length) c35)]).length))] (by kernel_rfl) ?_
    refine gl_done rfl ?_
    refine rnd_end (g := (vs, A, c)) (vs ++ [(Value.slice A34 ((chunkB ((bytesV i t cf dt).1) vs.length).length) c35)], A42, c43) (by kernel_rfl) ?_ ?_
    · exact ⟨by rw [List.length_append]; simp only [List.length_cons, List.length_nil]; omega, ((hH.pick [1, 2, 3, 4, 0, 5] rfl (os' := [.blk b1 24 [.int .i64 i, .int .i64 t, .slice Ac cf.length cc, .slice Ad dt.length cd], .row (.slice A7 (((bytesV i t cf dt).1).length) c8) 5 1 (((bytesV i t cf dt).1).length) (bv ((bytesV i t cf dt).1)), .row (.slice A21 (nch ((bytesV i t cf dt).1).length) c22) 22 1 (nch ((bytesV i t cf dt).1).length) ((List.range (nch ((bytesV i t cf dt).1).length)).map fun k => slv (chunkV A7 ((bytesV i t cf dt).1).length k)), .row (.slice A42 ((vs ++ [(Value.slice A34 ((chunkB ((bytesV i t cf dt).1) vs.length).length) c35)]).length) c43) 63 5 ((vs ++ [(Value.slice A34 ((chunkB ((bytesV i t cf dt).1) vs.length).length) c35)]).length) (partsC i t (nch (bytesV i t cf dt).1.length) (vs ++ [(Value.slice A34 ((chunkB ((bytesV i t cf dt).1) vs.length).length) c35)])), .grp (partOwn 5 (bytesV i t cf dt).1 (vs ++ [(Value.slice A34 ((chunkB ((bytesV i t cf dt).1) vs.length).length) c35)])), .row (.slice (some ⟨b38, 0, none⟩) 1 1) 63 5 1 [.int .i64 i, .int .i64 t, Ni vs.length, Ni (nch ((bytesV i t cf dt).1).length), .slice A34 ((chunkB ((bytesV i t cf dt).1) vs.length).length) c35]]) rfl).sublist (.cons_cons _ (.cons_cons _ (.cons_cons _ (.cons_cons _ (.cons_cons _ (List.nil_sublist _)))))))⟩
    · show nch (bytesV i t cf dt).1.length - (vs ++ [_]).length < nch (bytesV i t cf dt).1.length - vs.length; rw [List.length_append]; simp only [List.length_cons, List.length_nil]; omega
  try simp only [decide_eq_false_iff_not, Int.not_lt, Int.not_le] at hc3
  refine sw_exit ?_
  refine thX ?_
  refine thX ?_
  refine bkH ?_
  refine sw_next ?_
  refine sw_sr ?_
  refine gl_ops 3 [(2, .slice A vs.length c), (3, .nilIface)] (by kernel_rfl) ?_
  refine gl_dn rfl ?_
  refine sw_ret ?_
  refine ret2 rfl rfl rfl  ?_
  have he : vs.length = nch (bytesV i t cf dt).1.length := by omega
  have hsp := split_ok (i := i) (t := t) (cf := cf) (dt := dt) (by omega) (by omega)
  replace hH := hH.row_eq 3 (l' := vs.length) (xs' := partsC i t vs.length vs) rfl rfl (by rw [← he])
  exact ⟨_, vs, by rw [hsp.1] <;> rfl, by rw [hsp.2]; exact he, ((hH.sublist (.cons _ (.cons _ (.cons _ (.cons_cons _ (.cons_cons _ (List.nil_sublist _))))))).cast (by rw [hsp.2] <;> rfl)).fresh⟩
end Go.Proofs.YtjcchjgkkplamaaGreatDoor
