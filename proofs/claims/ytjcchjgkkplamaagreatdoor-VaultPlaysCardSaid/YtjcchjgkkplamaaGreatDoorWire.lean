/- Layer 1 (wire): what its functions answer. -/
import Derived.Test.YtjcchjgkkplamaaGreatDoorCalc
import Derived.Test.YtjcchjgkkplamaaGreatDoorWireP
import Derived.Test.YtjcchjgkkplamaaGreatDoorProg
import Derived.Test.YtjcchjgkkplamaaGreatDoorShelf
set_option maxRecDepth 100000
set_option maxHeartbeats 1000000
set_option linter.unusedVariables false
set_option linter.unusedSimpArgs false
namespace Go.Proofs.YtjcchjgkkplamaaGreatDoor
open Go.RowKit Go.SW
theorem Len_ct (x : Nat) (w : World) (h1 : x ≤ 18446744073709551615) :
    Fun Tryz.prog 82 [.int .u64 x] w fun v w' => v = (.int .i64 (Lib.bitLen x : Nat)) ∧ Fresh w w' [] := by
  have h := Tryz.bits_Len (x : Int) w (by omega) (by omega)
  refine Calls.mono h ?_
  rintro e w' ⟨rfl, rfl⟩
  exact ⟨_, rfl, rfl, Fresh.none (Below.refl _ _)⟩

theorem Num_ct (N : Nat) (w : World) (hN : N < 9223372036854775808) :
    Fun Tryz.prog 54 [.int .i64 N] w fun v w' => ∃ v1, v = .tuple #[v1, .nilIface] ∧ Fresh w w' [.row v1 5 1 (numB N).length (bv (numB N))] := by
  have hL64 : Lib.bitLen N ≤ 64 := bitLen_le N hN
  refine fun_of_sw Tryz.func54 rfl 35 rfl rfl ?_
  have hH := Hp.start w
  refine sw_sr ?_
  refine gl_ops 2 [(0, Ni N)] (by kernel_rfl) ?_
  refine gl_dn rfl ?_
  refine sw_seq ?_
  refine sw_sr ?_
  refine gl_ops 2 [(0, Ni N), (8, .bool (decide (((N : Nat) : Int) < (0 : Int))))] (by kernel_rfl) ?_
  refine gl_dn rfl ?_
  refine sw_cond rfl rfl (fun hc1 => ?_) (fun hc1 => ?_)
  · exact absurd hc1 (by simp only [decide_eq_true_eq, beq_iff_eq, bne_iff_ne, ne_eq]; omega)
  clear hc1
  refine sw_skip ?_
  refine sw_next ?_
  refine sw_sr ?_
  refine gl_ops 2 [(0, Ni N), (11, .int .u64 (IntKind.u64.wrap ((N : Nat) : Int)))] (by kernel_rfl) ?_
  refine gl_cv 11 (.int .u64 ((N : Nat) : Int)) (cv_u64 (by omega)) rfl ?_
  refine gl_st (st_call rfl rfl rfl (by kernel_rfl) rfl (Len_ct N _ (by omega)) ?_)
  rintro _ w1 ⟨rfl, hF2⟩
  replace hH := hH.call hF2; clear hF2
  refine gl_ops 1 [(0, Ni N), (13, .int .i64 (IntKind.i64.wrap (((Lib.bitLen N : Nat) : Int) + 7)))] (by kernel_rfl) ?_
  refine gl_cv 13 (Ni ((Lib.bitLen N) + 7)) (cv_i64 (by omega)) rfl ?_
  refine gl_ops 1 [(0, Ni N), (14, .int .i64 (IntKind.i64.wrap (Int.tdiv (((Lib.bitLen N) + 7 : Nat) : Int) 8)))] (by kernel_rfl) ?_
  refine gl_cv 14 (Ni (numLen N)) (cvq_i64 (by unfold numLen; omega)) rfl ?_
  refine gl_ops 1 [(0, Ni N), (4, Ni (numLen N))] (by kernel_rfl) ?_
  refine gl_dn rfl ?_
  refine sw_sr ?_
  have hk8 : numLen N ≤ 8 := by unfold numLen; omega
  refine gl_ops 2 [(0, Ni N), (4, Ni (numLen N)), (16, .int .i64 (IntKind.i64.wrap (1 + ((numLen N : Nat) : Int))))] (by kernel_rfl) ?_
  refine gl_cv 16 (Ni (1 + (numLen N))) (cv_i64 (by omega)) rfl ?_
  refine gl_st (st_makeH (e := 5) (zv := .int .u8 0) (bytes := 1) rfl rfl rfl (by kernel_rfl) (by kernel_rfl) rfl (1 + (numLen N)) rfl rfl (by omega) (by unfold maxLen; omega) hH ?_)
  clear hH; intro v3 w4 hH
  obtain ⟨A7, c8, rfl, hl9, hm10⟩ := hH.row_form 0 rfl
  refine gl_ops 1 [(0, Ni N), (4, Ni (numLen N)), (5, .slice A7 (1 + (numLen N)) c8)] (by kernel_rfl) ?_
  refine gl_dn rfl ?_
  refine sw_sr ?_
  refine gl_ops 3 [(0, Ni N), (4, Ni (numLen N)), (5, .slice A7 (1 + (numLen N)) c8), (18, .slice A7 (1 + (numLen N)) c8), (20, .int .u8 (IntKind.u8.wrap ((numLen N : Nat) : Int)))] (by kernel_rfl) ?_
  refine gl_cv 20 (.int .u8 ((numLen N : Nat) : Int)) (cv_u8 (by omega)) rfl ?_
  obtain ⟨b12, hb11, hi13⟩ := hH.row_idx 0 rfl 0 (by omega)
  refine gl_q rfl rfl rfl (rd_idx (e := 5) (m := 1) (by kernel_rfl) (by kernel_rfl) rfl rfl hi13) ?_
  refine gl_st (st_storeO (u := .int .u8 ((numLen N : Nat) : Int)) 0 rfl rfl rfl hH rfl rfl rfl (by kernel_rfl) rfl hb11 (by simp [bv_length] <;> omega) ?_)
  clear hH; intro w14 hH
  replace hH := hH.row_eq 0 (l' := 1 + (numLen N)) (xs' := bv (numAt N (numLen N) (numLen N))) rfl (rfl) (num_start N _ hk8)
  refine gl_dn rfl ?_
  refine sw_seq ?_
  refine sw_sr ?_
  refine gl_ops 2 [(0, Ni N), (5, .slice A7 (1 + (numLen N)) c8), (6, Ni (numLen N))] (by kernel_rfl) ?_
  refine gl_dn rfl ?_
  refine sw_block ?_
  refine sw_loop (γ := Nat × Nat) (fun (i, n) => [(0, Ni n), (5, .slice A7 (1 + (numLen N)) c8), (6, Ni i)]) (fun (i, n) w_ => (i ≤ numLen N) ∧ (n = N / 256 ^ (numLen N - i)) ∧ Hp w w_ (w.cell?) [] [.row (.slice A7 (1 + (numLen N)) c8) 5 1 (1 + (numLen N)) (bv (numAt N (numLen N) i))]) (fun (i, n) => i) (numLen N, N) (Sub.of_eq (by kernel_rfl)) ?_ ?_
  · exact ⟨Nat.le_refl _, by simp, hH⟩
  clear hH
  rintro ⟨i, n⟩ w15 ⟨hi, hn, hH⟩
  have hn9 : n < 9223372036854775808 := by rw [hn]; exact Nat.lt_of_le_of_lt (Nat.div_le_self _ _) hN
  refine sw_keep [(0, Ni n), (5, .slice A7 (1 + (numLen N)) c8), (6, Ni i)] (by kernel_rfl) ?_
  refine sw_seq ?_
  refine sw_sr ?_
  refine gl_ops 2 [(0, Ni n), (5, .slice A7 (1 + (numLen N)) c8), (6, Ni i), (24, .bool (decide (((i : Nat) : Int) > (0 : Int))))] (by kernel_rfl) ?_
  refine gl_dn rfl ?_
  refine sw_cond rfl rfl (fun hc2 => ?_) (fun hc2 => ?_)
  ·
    try simp only [decide_eq_true_eq] at hc2
    refine sw_skip ?_
    refine sw_next ?_
    refine sw_seq ?_
    refine sw_block ?_
    refine sw_sr ?_
    refine gl_ops 4 [(0, Ni n), (5, .slice A7 (1 + (numLen N)) c8), (6, Ni i), (27, .slice A7 (1 + (numLen N)) c8), (28, Ni i), (30, .int .u8 (IntKind.u8.wrap ((n : Nat) : Int)))] (by kernel_rfl) ?_
    refine gl_cv 30 (.int .u8 (((UInt8.ofNat n).toNat : Nat) : Int)) (cv_byte _) rfl ?_
    obtain ⟨b17, hb16, hi18⟩ := hH.row_idx 0 rfl i (by omega)
    refine gl_q rfl rfl rfl (rd_idx (e := 5) (m := 1) (by kernel_rfl) (by kernel_rfl) rfl rfl hi18) ?_
    refine gl_st (st_storeO (u := .int .u8 (((UInt8.ofNat n).toNat : Nat) : Int)) 0 rfl rfl rfl hH rfl rfl rfl (by kernel_rfl) rfl hb16 (by rw [bv_length, numAt_length _ _ _ hi]; omega) ?_)
    clear hH; intro w19 hH
    replace hH := hH.row_eq 0 (l' := 1 + (numLen N)) (xs' := bv (numAt N (numLen N) (i - 1))) rfl (rfl) (by rw [Nat.mul_one, bv_set, hn, numAt_step N _ i (by omega) hi])
    refine gl_dn rfl ?_
    refine sw_region ?_
    refine gl_ops 2 [(5, .slice A7 (1 + (numLen N)) c8), (6, Ni i), (33, .int .i64 (Int.fdiv ((n : Nat) : Int) (2 ^ 8)))] (by kernel_rfl) ?_
    refine gl_cv 33 (Ni (n / 256)) (cv_shr) rfl ?_
    refine gl_ops 1 [(0, Ni (n / 256)), (5, .slice A7 (1 + (numLen N)) c8), (6, Ni i)] (by kernel_rfl) ?_
    refine gl_done rfl ?_
    refine bkN ?_
    refine sw_next ?_
    refine sw_region ?_
    refine gl_ops 2 [(0, Ni (n / 256)), (5, .slice A7 (1 + (numLen N)) c8), (26, .int .i64 (IntKind.i64.wrap (((i : Nat) : Int) - 1)))] (by kernel_rfl) ?_
    refine gl_cv 26 (Ni (i - 1)) (cv_i64 (by omega)) rfl ?_
    refine gl_ops 1 [(0, Ni (n / 256)), (5, .slice A7 (1 + (numLen N)) c8), (6, Ni (i - 1))] (by kernel_rfl) ?_
    refine gl_done rfl ?_
    refine rnd_end (g := (i, n)) (i - 1, n / 256) (by kernel_rfl) ?_ ?_
    · exact ⟨by omega, by rw [hn, Nat.div_div_eq_div_mul, ← Nat.pow_succ]; congr 2; omega, hH⟩
    · show (i - 1) < i; omega
  try simp only [decide_eq_false_iff_not, Int.not_lt, Int.not_le] at hc2
  refine sw_exit ?_
  refine thX ?_
  refine thX ?_
  refine bkH ?_
  refine sw_next ?_
  refine sw_sr ?_
  refine gl_ops 3 [(2, .slice A7 (1 + (numLen N)) c8), (3, .nilIface)] (by kernel_rfl) ?_
  refine gl_dn rfl ?_
  refine sw_ret ?_
  refine ret2 rfl rfl rfl  ?_
  exact ⟨_, rfl, (hH.row_eq 0 (l' := (numB N).length) (xs' := bv (numB N)) rfl (by rw [numB_length]; omega) (by rw [show i = 0 from by omega, num_end])).fresh⟩
theorem TakeNum_ct (vb : Value) (b : List UInt8) (w : World) (hb : RB w.cell? vb b) :
    Fun Tryz.prog 61 [vb] w fun v w' => v = .tuple #[.int .i64 ((takeNum b).1 : Nat), .int .i64 ((takeNum b).2.1 : Nat), errV (takeNum b).2.2] ∧ Fresh w w' [] := by
  have g0 := gb_lt b 0
  have g1 := gb_lt b 1
  have hbl : b.length ≤ 9223372036854775807 := RB.le hb
  obtain ⟨Ab, cb, rfl, hb1, hb2⟩ := hb.row.form
  refine fun_of_sw Tryz.func61 rfl 61 rfl rfl ?_
  have hH := Hp.start w
  refine sw_sr ?_
  refine gl_ops 3 [(0, .slice Ab b.length cb)] (by kernel_rfl) ?_
  refine gl_dn rfl ?_
  refine sw_seq ?_
  refine sw_sr ?_
  refine gl_ops 1 [(0, .slice Ab b.length cb), (9, .slice Ab b.length cb)] (by kernel_rfl) ?_
  refine gl_q rfl rfl rfl (rd_len (e := 5) (by kernel_rfl) rfl) ?_
  refine gl_ops 1 [(0, .slice Ab b.length cb), (11, .bool (((b.length : Nat) : Int) == (0 : Int)))] (by kernel_rfl) ?_
  refine gl_dn rfl ?_
  refine sw_cond rfl rfl (fun hc1 => ?_) (fun hc1 => ?_)
  ·
    try simp only [beq_iff_eq] at hc1
    refine sw_sr ?_
    refine gl_ops 4 [(2, .int .i64 0), (3, .int .i64 0), (4, .iface 37 (.int .i64 3))] (by kernel_rfl) ?_
    refine gl_dn rfl ?_
    refine sw_ret ?_
    refine thR ?_
    refine ret3 rfl rfl rfl rfl  ?_
    exact ⟨by unfold takeNum; rw [if_pos (by omega)]; rfl, hH.fresh⟩
  try simp only [beq_eq_false_iff_ne, ne_eq] at hc1
  refine sw_skip ?_
  refine sw_next ?_
  refine sw_sr ?_
  obtain ⟨p1, hi3, hp2⟩ := hb.row.idx 0 (by omega) (by decide)
  refine gl_ops 1 [(0, .slice Ab b.length cb), (13, .slice Ab b.length cb)] (by kernel_rfl) ?_
  refine gl_q rfl rfl rfl (rd_idx (e := 5) (m := 1) (by kernel_rfl) (by kernel_rfl) rfl rfl hi3) ?_
  refine gl_q rfl rfl rfl (rd_load (by kernel_rfl) rfl (hH.zin _ _ (hp2 0 _ (by decide) (bv_at b 0 (by omega))))) ?_
  refine gl_ops 1 [(0, .slice Ab b.length cb), (16, .int .i64 (IntKind.i64.wrap ((gb b 0 : Nat) : Int)))] (by kernel_rfl) ?_
  refine gl_cv 16 (Ni (gb b 0)) (cv_i64 (by omega)) rfl ?_
  refine gl_ops 1 [(0, .slice Ab b.length cb), (5, Ni (gb b 0))] (by kernel_rfl) ?_
  refine gl_dn rfl ?_
  refine sw_sr ?_
  refine gl_ops 1 [(0, .slice Ab b.length cb), (5, Ni (gb b 0)), (6, .int .i64 0)] (by kernel_rfl) ?_
  refine gl_dn rfl ?_
  refine sw_seq ?_
  refine sw_block ?_
  refine sw_cut (γ := Unit) (fun _ => [(0, .slice Ab b.length cb), (5, Ni (gb b 0)), (6, .int .i64 0)]) (fun _ w_ => (0 < gb b 0) ∧ (gb b 0 ≤ 8) ∧ (gb b 0 < b.length) ∧ (gb b 0 = 8 → gb b 1 ≤ 127) ∧ Hp w w_ (w.cell?) [] []) ?_ ?_
  ·
    refine sw_block ?_
    refine sw_seq ?_
    refine sw_block ?_
    refine sw_seq ?_
    refine sw_block ?_
    refine sw_seq ?_
    refine sw_block ?_
    refine sw_seq ?_
    refine sw_seq ?_
    refine sw_sr ?_
    refine gl_ops 3 [(0, .slice Ab b.length cb), (5, Ni (gb b 0)), (6, .int .i64 0), (17, .bool (decide (((gb b 0 : Nat) : Int) > (8 : Int))))] (by kernel_rfl) ?_
    refine gl_dn rfl ?_
    refine sw_cond rfl rfl (fun hc2 => ?_) (fun hc2 => ?_)
    ·
      try simp only [decide_eq_true_eq] at hc2
      refine sw_exit ?_
      refine thX ?_
      refine thX ?_
      refine bkH ?_
      refine sw_next ?_
      refine sw_seq ?_
      refine sw_sr ?_
      refine gl_ops 4 [(2, .int .i64 0), (3, .int .i64 0), (4, .iface 37 (.int .i64 4))] (by kernel_rfl) ?_
      refine gl_dn rfl ?_
      refine sw_ret ?_
      refine thR ?_
      refine bkR ?_
      refine thR ?_
      refine bkR ?_
      refine thR ?_
      refine bkR ?_
      refine thR ?_
      refine bkR ?_
      refine thR ?_
      refine ret3 rfl rfl rfl rfl  ?_
      exact ⟨by unfold takeNum; rw [if_neg (by omega), if_pos (by omega)]; rfl, hH.fresh⟩
    try simp only [decide_eq_false_iff_not, Int.not_lt, Int.not_le] at hc2
    refine sw_skip ?_
    refine sw_next ?_
    refine sw_seq ?_
    refine sw_sr ?_
    refine gl_ops 1 [(0, .slice Ab b.length cb), (5, Ni (gb b 0)), (6, .int .i64 0), (21, .slice Ab b.length cb)] (by kernel_rfl) ?_
    refine gl_q rfl rfl rfl (rd_len (e := 5) (by kernel_rfl) rfl) ?_
    refine gl_ops 3 [(0, .slice Ab b.length cb), (5, Ni (gb b 0)), (6, .int .i64 0), (20, .bool (decide (((b.length : Nat) : Int) ≤ ((gb b 0 : Nat) : Int))))] (by kernel_rfl) ?_
    refine gl_dn rfl ?_
    refine sw_cond rfl rfl (fun hc3 => ?_) (fun hc3 => ?_)
    ·
      try simp only [decide_eq_true_eq] at hc3
      refine sw_exit ?_
      refine thX ?_
      refine thX ?_
      refine bkX rfl ?_
      refine thX ?_
      refine bkH ?_
      refine sw_next ?_
      refine sw_seq ?_
      refine sw_sr ?_
      refine gl_ops 4 [(2, .int .i64 0), (3, .int .i64 0), (4, .iface 37 (.int .i64 3))] (by kernel_rfl) ?_
      refine gl_dn rfl ?_
      refine sw_ret ?_
      refine thR ?_
      refine bkR ?_
      refine thR ?_
      refine bkR ?_
      refine thR ?_
      refine bkR ?_
      refine thR ?_
      refine ret3 rfl rfl rfl rfl  ?_
      exact ⟨by unfold takeNum; rw [if_neg (by omega), if_neg (by omega), if_pos (by omega)]; rfl, hH.fresh⟩
    try simp only [decide_eq_false_iff_not, Int.not_lt, Int.not_le] at hc3
    refine sw_skip ?_
    refine sw_next ?_
    refine sw_seq ?_
    refine sw_sr ?_
    refine gl_ops 3 [(0, .slice Ab b.length cb), (5, Ni (gb b 0)), (6, .int .i64 0), (25, .bool (((gb b 0 : Nat) : Int) == (8 : Int)))] (by kernel_rfl) ?_
    refine gl_dn rfl ?_
    refine sw_cond rfl rfl (fun hc4 => ?_) (fun hc4 => ?_)
    ·
      try simp only [beq_iff_eq] at hc4
      refine sw_exit ?_
      refine thX ?_
      refine thX ?_
      refine bkX rfl ?_
      refine thX ?_
      refine bkX rfl ?_
      refine thX ?_
      refine bkH ?_
      refine sw_next ?_
      refine sw_sr ?_
      obtain ⟨p4, hi6, hp5⟩ := hb.row.idx 1 (by omega) (by decide)
      refine gl_ops 1 [(0, .slice Ab b.length cb), (5, Ni (gb b 0)), (6, .int .i64 0), (33, .slice Ab b.length cb)] (by kernel_rfl) ?_
      refine gl_q rfl rfl rfl (rd_idx (e := 5) (m := 1) (by kernel_rfl) (by kernel_rfl) rfl rfl hi6) ?_
      refine gl_q rfl rfl rfl (rd_load (by kernel_rfl) rfl (hH.zin _ _ (hp5 0 _ (by decide) (bv_at b 1 (by omega))))) ?_
      refine gl_ops 1 [(0, .slice Ab b.length cb), (5, Ni (gb b 0)), (6, .int .i64 0), (36, .bool (decide (((gb b 1 : Nat) : Int) > (127 : Int))))] (by kernel_rfl) ?_
      refine gl_dn rfl ?_
      refine sw_cond rfl rfl (fun hc5 => ?_) (fun hc5 => ?_)
      ·
        try simp only [decide_eq_true_eq] at hc5
        refine sw_sr ?_
        refine gl_ops 4 [(2, .int .i64 0), (3, .int .i64 0), (4, .iface 37 (.int .i64 4))] (by kernel_rfl) ?_
        refine gl_dn rfl ?_
        refine sw_ret ?_
        refine bkR ?_
        refine thR ?_
        refine bkR ?_
        refine thR ?_
        refine ret3 rfl rfl rfl rfl  ?_
        exact ⟨by unfold takeNum; rw [if_neg (by omega), if_neg (by omega), if_neg (by omega), if_pos (by omega)]; rfl, hH.fresh⟩
      try simp only [decide_eq_false_iff_not, Int.not_lt, Int.not_le] at hc5
      refine sw_skip ?_
      refine bkN ?_
      refine cut_end (()) (Sub.of_eq (by kernel_rfl)) ?_
      exact ⟨by omega, by omega, by omega, by omega, hH⟩
    try simp only [beq_eq_false_iff_ne, ne_eq] at hc4
    refine sw_skip ?_
    refine sw_next ?_
    refine sw_sr ?_
    refine gl_ops 3 [(0, .slice Ab b.length cb), (5, Ni (gb b 0)), (6, .int .i64 0), (28, .bool (decide (((gb b 0 : Nat) : Int) > (0 : Int))))] (by kernel_rfl) ?_
    refine gl_dn rfl ?_
    refine sw_cond rfl rfl (fun hc6 => ?_) (fun hc6 => ?_)
    ·
      try simp only [decide_eq_true_eq] at hc6
      refine sw_exit ?_
      refine thX ?_
      refine bkX rfl ?_
      refine thX ?_
      refine bkX rfl ?_
      refine thX ?_
      refine bkX rfl ?_
      refine thX ?_
      refine bkH ?_
      refine cut_end (()) (Sub.of_eq (by kernel_rfl)) ?_
      exact ⟨by omega, by omega, by omega, by omega, hH⟩
    try simp only [decide_eq_false_iff_not, Int.not_lt, Int.not_le] at hc6
    refine sw_skip ?_
    refine sw_next ?_
    refine sw_exit ?_
    refine bkX rfl ?_
    refine thX ?_
    refine bkX rfl ?_
    refine thX ?_
    refine bkX rfl ?_
    refine thX ?_
    refine bkX rfl ?_
    refine thX ?_
    refine bkH ?_
    refine sw_next ?_
    refine sw_sr ?_
    refine gl_ops 3 [(58, .int .i64 0), (60, .int .i64 (IntKind.i64.wrap (1 + ((gb b 0 : Nat) : Int))))] (by kernel_rfl) ?_
    refine gl_cv 60 (Ni (1 + (gb b 0))) (cv_i64 (by omega)) rfl ?_
    refine gl_ops 3 [(2, .int .i64 0), (3, Ni (1 + (gb b 0))), (4, .nilIface)] (by kernel_rfl) ?_
    refine gl_dn rfl ?_
    refine sw_ret ?_
    refine ret3 rfl rfl rfl rfl  ?_
    exact ⟨by unfold takeNum; rw [if_neg (by omega), if_neg (by omega), if_neg (by omega), if_neg (by omega), if_neg (by omega), show gb b 0 = 0 from by omega]; rfl, hH.fresh⟩
  clear hH
  rintro _ w7 ⟨k0, k8, kb, k127, hH⟩
  refine sw_keep [(0, .slice Ab b.length cb), (5, Ni (gb b 0)), (6, .int .i64 0)] (by kernel_rfl) ?_
  refine sw_seq ?_
  refine sw_seq ?_
  refine sw_sr ?_
  obtain ⟨p8, hi10, hp9⟩ := hb.row.idx 1 (by omega) (by decide)
  refine gl_ops 1 [(0, .slice Ab b.length cb), (5, Ni (gb b 0)), (6, .int .i64 0), (38, .slice Ab b.length cb)] (by kernel_rfl) ?_
  refine gl_q rfl rfl rfl (rd_idx (e := 5) (m := 1) (by kernel_rfl) (by kernel_rfl) rfl rfl hi10) ?_
  refine gl_q rfl rfl rfl (rd_load (by kernel_rfl) rfl (hH.zin _ _ (hp9 0 _ (by decide) (bv_at b 1 (by omega))))) ?_
  refine gl_ops 1 [(0, .slice Ab b.length cb), (5, Ni (gb b 0)), (6, .int .i64 0), (41, .bool (((gb b 1 : Nat) : Int) == (0 : Int)))] (by kernel_rfl) ?_
  refine gl_dn rfl ?_
  refine sw_cond rfl rfl (fun hc7 => ?_) (fun hc7 => ?_)
  ·
    try simp only [beq_iff_eq] at hc7
    refine sw_sr ?_
    refine gl_ops 4 [(2, .int .i64 0), (3, .int .i64 0), (4, .iface 37 (.int .i64 4))] (by kernel_rfl) ?_
    refine gl_dn rfl ?_
    refine sw_ret ?_
    refine thR ?_
    refine thR ?_
    refine bkR ?_
    refine thR ?_
    refine ret3 rfl rfl rfl rfl  ?_
    exact ⟨by unfold takeNum; rw [if_neg (by omega), if_neg (by omega), if_neg (by omega), if_neg (by omega), if_pos (by omega)]; rfl, hH.fresh⟩
  try simp only [beq_eq_false_iff_ne, ne_eq] at hc7
  refine sw_skip ?_
  refine sw_next ?_
  refine sw_sr ?_
  refine gl_ops 3 [(5, Ni (gb b 0)), (6, .int .i64 0), (43, .slice Ab b.length cb), (45, .int .i64 (IntKind.i64.wrap (1 + ((gb b 0 : Nat) : Int))))] (by kernel_rfl) ?_
  refine gl_cv 45 (Ni (1 + (gb b 0))) (cv_i64 (by omega)) rfl ?_
  obtain ⟨A11, hk12, hv13⟩ := hb.row.cut (by decide) 1 (1 + (gb b 0)) (by omega) (by omega)
  refine gl_q rfl rfl rfl (rd_cut (e := 5) (m := 1) (by kernel_rfl) (by kernel_rfl) rfl (.inr ⟨_, _, rfl, rfl⟩) (.inr ⟨_, _, rfl, rfl⟩) hk12) ?_
  refine gl_q rfl rfl rfl (rd_len (e := 5) (by kernel_rfl) rfl) ?_
  refine gl_ops 1 [(5, Ni (gb b 0)), (6, .int .i64 0), (46, .slice A11 ((1 + (gb b 0)) - 1) (cb - 1)), (47, Ni ((1 + (gb b 0)) - 1)), (48, .int .i64 0)] (by kernel_rfl) ?_
  refine gl_dn rfl ?_
  refine sw_block ?_
  refine sw_loop (γ := Nat) (fun j => [(5, Ni (gb b 0)), (6, Ni (beVal ((b.drop 1).take j))), (46, .slice A11 ((1 + (gb b 0)) - 1) (cb - 1)), (47, Ni ((1 + (gb b 0)) - 1)), (48, Ni j)]) (fun j w_ => (j ≤ gb b 0) ∧ Hp w w_ (w.cell?) [] []) (fun j => gb b 0 - j) (0) (Sub.of_eq (by kernel_rfl)) ?_ ?_
  · exact ⟨by omega, hH⟩
  clear hH
  rintro j w14 ⟨hj, hH⟩
  refine sw_keep [(5, Ni (gb b 0)), (6, Ni (beVal ((b.drop 1).take j))), (46, .slice A11 ((1 + (gb b 0)) - 1) (cb - 1)), (47, Ni ((1 + (gb b 0)) - 1)), (48, Ni j)] (by kernel_rfl) ?_
  refine sw_sr ?_
  refine gl_ops 1 [(5, Ni (gb b 0)), (6, Ni (beVal ((b.drop 1).take j))), (46, .slice A11 ((1 + (gb b 0)) - 1) (cb - 1)), (47, Ni ((1 + (gb b 0)) - 1)), (48, Ni j), (49, .bool (decide (((j : Nat) : Int) < (((1 + (gb b 0)) - 1 : Nat) : Int))))] (by kernel_rfl) ?_
  refine gl_dn rfl ?_
  refine sw_seq ?_
  refine sw_cond rfl rfl (fun hc8 => ?_) (fun hc8 => ?_)
  ·
    try simp only [decide_eq_true_eq] at hc8
    have hbd := tn_bound b (gb b 0) j (by omega) k8 k127 kb
    have gj := gb_lt b (1 + j)
    refine sw_skip ?_
    refine sw_next ?_
    refine sw_seq ?_
    refine sw_block ?_
    refine sw_sr ?_
    obtain ⟨p15, hi17, hp16⟩ := hv13.idx j (by omega) (by decide)
    refine gl_q rfl rfl rfl (rd_idx (e := 5) (m := 1) (by kernel_rfl) (by kernel_rfl) rfl rfl hi17) ?_
    refine gl_q rfl rfl rfl (rd_load (by kernel_rfl) rfl (hH.zin _ _ (hp16 0 _ (by decide) (by simpa using bv_cut_at b (gb b 0) j (by omega) (by omega))))) ?_
    refine gl_ops 1 [(5, Ni (gb b 0)), (6, Ni (beVal ((b.drop 1).take j))), (8, .int .u8 ((gb b (1 + j) : Nat) : Int)), (46, .slice A11 ((1 + (gb b 0)) - 1) (cb - 1)), (47, Ni ((1 + (gb b 0)) - 1)), (48, Ni j)] (by kernel_rfl) ?_
    refine gl_dn rfl ?_
    refine sw_region ?_
    refine gl_ops 2 [(5, Ni (gb b 0)), (8, .int .u8 ((gb b (1 + j) : Nat) : Int)), (46, .slice A11 ((1 + (gb b 0)) - 1) (cb - 1)), (47, Ni ((1 + (gb b 0)) - 1)), (48, Ni j), (53, .int .i64 (IntKind.i64.wrap (((beVal ((b.drop 1).take j) : Nat) : Int) * 2 ^ 8)))] (by kernel_rfl) ?_
    refine gl_cv 53 (Ni ((beVal ((b.drop 1).take j)) * 256)) (cv_shl_i64 (by omega)) rfl ?_
    refine gl_ops 2 [(5, Ni (gb b 0)), (46, .slice A11 ((1 + (gb b 0)) - 1) (cb - 1)), (47, Ni ((1 + (gb b 0)) - 1)), (48, Ni j), (53, Ni ((beVal ((b.drop 1).take j)) * 256)), (55, .int .i64 (IntKind.i64.wrap ((gb b (1 + j) : Nat) : Int)))] (by kernel_rfl) ?_
    refine gl_cv 55 (Ni (gb b (1 + j))) (cv_i64 (by omega)) rfl ?_
    refine gl_ops 1 [(5, Ni (gb b 0)), (46, .slice A11 ((1 + (gb b 0)) - 1) (cb - 1)), (47, Ni ((1 + (gb b 0)) - 1)), (48, Ni j), (56, .int .i64 (IntKind.i64.wrap (((BitVec.ofInt 64 (((beVal ((b.drop 1).take j)) * 256 : Nat) : Int) ||| BitVec.ofInt 64 ((gb b (1 + j) : Nat) : Int)).toNat : Nat) : Int)))] (by kernel_rfl) ?_
    refine gl_cv 56 (Ni (beVal ((b.drop 1).take (j + 1)))) (by rw [cv_or_low gj hbd, take_snoc b j (by omega), beVal_snoc, Nat.add_comm 1 j]; rfl) rfl ?_
    refine gl_ops 1 [(5, Ni (gb b 0)), (6, Ni (beVal ((b.drop 1).take (j + 1)))), (46, .slice A11 ((1 + (gb b 0)) - 1) (cb - 1)), (47, Ni ((1 + (gb b 0)) - 1)), (48, Ni j)] (by kernel_rfl) ?_
    refine gl_done rfl ?_
    refine bkN ?_
    refine sw_next ?_
    refine sw_region ?_
    refine gl_ops 1 [(5, Ni (gb b 0)), (6, Ni (beVal ((b.drop 1).take (j + 1)))), (46, .slice A11 ((1 + (gb b 0)) - 1) (cb - 1)), (47, Ni ((1 + (gb b 0)) - 1)), (57, .int .i64 (IntKind.i64.wrap (((j : Nat) : Int) + 1)))] (by kernel_rfl) ?_
    refine gl_cv 57 (Ni (j + 1)) (cv_i64 (by omega)) rfl ?_
    refine gl_ops 1 [(5, Ni (gb b 0)), (6, Ni (beVal ((b.drop 1).take (j + 1)))), (46, .slice A11 ((1 + (gb b 0)) - 1) (cb - 1)), (47, Ni ((1 + (gb b 0)) - 1)), (48, Ni (j + 1))] (by kernel_rfl) ?_
    refine gl_done rfl ?_
    refine rnd_end (g := (j)) (j + 1) (by kernel_rfl) ?_ ?_
    · exact ⟨by omega, hH⟩
    · show gb b 0 - (j + 1) < gb b 0 - j; omega
  try simp only [decide_eq_false_iff_not, Int.not_lt, Int.not_le] at hc8
  refine sw_exit ?_
  refine thX ?_
  refine thX ?_
  refine bkH ?_
  refine sw_next ?_
  refine sw_exit ?_
  refine bkH ?_
  refine sw_next ?_
  refine sw_sr ?_
  refine gl_ops 3 [(58, Ni (beVal ((b.drop 1).take j))), (60, .int .i64 (IntKind.i64.wrap (1 + ((gb b 0 : Nat) : Int))))] (by kernel_rfl) ?_
  refine gl_cv 60 (Ni (1 + (gb b 0))) (cv_i64 (by omega)) rfl ?_
  refine gl_ops 3 [(2, Ni (beVal ((b.drop 1).take j))), (3, Ni (1 + (gb b 0))), (4, .nilIface)] (by kernel_rfl) ?_
  refine gl_dn rfl ?_
  refine sw_ret ?_
  refine ret3 rfl rfl rfl rfl  ?_
  obtain rfl : j = gb b 0 := by omega
  exact ⟨by unfold takeNum; rw [if_neg (by omega), if_neg (by omega), if_neg (by omega), if_neg (by omega), if_neg (by omega)]; rfl, hH.fresh⟩
theorem NumNeg_ct (N : Int) (w : World) (hN : N < 0) :
    Fun Tryz.prog 54 [.int .i64 N] w fun v w' => v = .tuple #[.slice none 0 0, errV 1] ∧ Fresh w w' [] := by
  refine fun_of_sw Tryz.func54 rfl 35 rfl rfl ?_
  have hH := Hp.start w
  refine sw_sr ?_
  refine gl_ops 2 [(0, .int .i64 N)] (by kernel_rfl) ?_
  refine gl_dn rfl ?_
  refine sw_seq ?_
  refine sw_sr ?_
  refine gl_ops 2 [(0, .int .i64 N), (8, .bool (decide ((N : Int) < (0 : Int))))] (by kernel_rfl) ?_
  refine gl_dn rfl ?_
  refine sw_cond rfl rfl (fun hc1 => ?_) (fun hc1 => ?_)
  rotate_left
  · exact absurd hc1 (by simp only [decide_eq_false_iff_not, beq_eq_false_iff_ne, bne_eq_false_iff_eq, ne_eq, Decidable.not_not, Int.not_lt, Int.not_le]; omega)
  clear hc1
  refine sw_sr ?_
  refine gl_ops 3 [(2, .slice none 0 0), (3, .iface 37 (.int .i64 1))] (by kernel_rfl) ?_
  refine gl_dn rfl ?_
  refine sw_ret ?_
  refine thR ?_
  refine ret2 rfl rfl rfl  ?_
  exact ⟨rfl, hH.fresh⟩
/-- A number's bytes, whatever the number. -/
def numO (N : Int) : List UInt8 := if N < 0 then [] else numB N.toNat
theorem NumI_ct (N : Int) (w : World) (hN : N < 9223372036854775808) :
    Fun Tryz.prog 54 [.int .i64 N] w fun v w' => ∃ v1, v = .tuple #[v1, errV (if N < 0 then 1 else 0)] ∧ Fresh w w' [.row v1 5 1 (numO N).length (bv (numO N))] := by
  by_cases h : N < 0
  · refine (NumNeg_ct N w h).mono ?_
    rintro v w' ⟨rfl, hF⟩
    exact ⟨_, by rw [if_pos h], ((Hp.nilRow hF 5 1).cast (by simp [numO, h, bv])).fresh⟩
  · have h1 := Num_ct N.toNat w (by omega)
    rw [show ((N.toNat : Nat) : Int) = N by omega] at h1
    refine h1.mono ?_
    rintro v w' ⟨v1, rfl, hF⟩
    exact ⟨v1, by rw [if_neg h]; rfl, by unfold numO; rw [if_neg h]; exact hF⟩

theorem Blob_ct (vp : Value) (p : List UInt8) (w : World) (hp : RB w.cell? vp p) :
    Fun Tryz.prog 55 [vp] w fun v w' => ∃ v1, v = .tuple #[v1, errV (if 65536 < p.length then 2 else 0)] ∧ Fresh w w' [.row v1 5 1 (blobB p).length (bv (blobB p))] := by
  have hpl : p.length ≤ 9223372036854775807 := RB.le hp
  have hnb := numB_le p.length
  obtain ⟨Ap, cp, rfl, hp1, hp2⟩ := hp.row.form
  refine fun_of_sw Tryz.func55 rfl 20 rfl rfl ?_
  have hH := Hp.start w
  refine sw_sr ?_
  refine gl_ops 2 [(0, .slice Ap p.length cp)] (by kernel_rfl) ?_
  refine gl_dn rfl ?_
  refine sw_seq ?_
  refine sw_sr ?_
  refine gl_ops 1 [(0, .slice Ap p.length cp), (6, .slice Ap p.length cp)] (by kernel_rfl) ?_
  refine gl_q rfl rfl rfl (rd_len (e := 5) (by kernel_rfl) rfl) ?_
  refine gl_ops 1 [(0, .slice Ap p.length cp), (8, .bool (decide (((p.length : Nat) : Int) > (65536 : Int))))] (by kernel_rfl) ?_
  refine gl_dn rfl ?_
  refine sw_cond rfl rfl (fun hc1 => ?_) (fun hc1 => ?_)
  ·
    try simp only [decide_eq_true_eq] at hc1
    refine sw_sr ?_
    refine gl_ops 3 [(2, .slice none 0 0), (3, .iface 37 (.int .i64 2))] (by kernel_rfl) ?_
    refine gl_dn rfl ?_
    refine sw_ret ?_
    refine thR ?_
    refine ret2 rfl rfl rfl  ?_
    exact ⟨_, by rw [if_pos (by omega)]; rfl, (hH.nilRow 5 1).cast (by simp [blobB, show 65536 < p.length from by omega, bv]) |>.fresh⟩
  try simp only [decide_eq_false_iff_not, Int.not_lt, Int.not_le] at hc1
  refine sw_skip ?_
  refine sw_next ?_
  refine sw_sr ?_
  refine gl_ops 1 [(0, .slice Ap p.length cp), (11, .slice Ap p.length cp)] (by kernel_rfl) ?_
  refine gl_q rfl rfl rfl (rd_len (e := 5) (by kernel_rfl) rfl) ?_
  refine gl_st (st_call rfl rfl rfl (by kernel_rfl) rfl (Num_ct p.length _ (by omega)) ?_)
  rintro _ w3 ⟨v1, rfl, hF4⟩
  replace hH := hH.call hF4; clear hF4
  obtain ⟨A5, c6, rfl, hl7, hm8⟩ := hH.row_form 0 rfl
  refine gl_ops 5 [(0, .slice Ap p.length cp), (4, .slice A5 ((numB p.length).length) c6), (5, .nilIface)] (by kernel_rfl) ?_
  refine gl_dn rfl ?_
  refine sw_sr ?_
  refine gl_ops 2 [(5, .nilIface), (16, .slice A5 ((numB p.length).length) c6), (17, .slice Ap p.length cp)] (by kernel_rfl) ?_
  refine gl_st (st_appH (e := 5) (zv := .int .u8 0) (m := 1) (bytes := 1) 0 rfl rfl rfl (by kernel_rfl) (by kernel_rfl) rfl (by decide) hH rfl rfl rfl (hp.row.mono hH.zin) (bv_one _) (by unfold maxLen; omega) (by omega) ?_)
  clear hH; intro v9 w10 hH
  replace hH := hH.row_eq 0 (l' := ((numB p.length) ++ p).length) (xs' := bv ((numB p.length) ++ p)) rfl (by simp only [List.length_append, List.length_cons, List.length_nil] <;> omega) ((bv_append _ _).symm)
  obtain ⟨A11, c12, rfl, hl13, hm14⟩ := hH.row_form 0 rfl
  refine gl_ops 3 [(2, .slice A11 (((numB p.length) ++ p).length) c12), (3, .nilIface)] (by kernel_rfl) ?_
  refine gl_dn rfl ?_
  refine sw_ret ?_
  refine ret2 rfl rfl rfl  ?_
  exact ⟨_, by rw [if_neg (by omega)]; rfl, (hH.cast (by simp [blobB, show ¬ 65536 < p.length from by omega, bv_append])).fresh⟩
theorem TakeBlob_ct (vb : Value) (b : List UInt8) (w : World) (hb : RB w.cell? vb b) :
    Fun Tryz.prog 62 [vb] w fun v w' => ∃ v1, v = .tuple #[v1, .int .i64 ((takeBlob b).2.1 : Nat), errV (takeBlob b).2.2] ∧ Fresh w w' [.row v1 5 1 (takeBlob b).1.length (bv (takeBlob b).1)] := by
  have hbl : b.length ≤ 9223372036854775807 := RB.le hb
  have hu := takeNum_used b
  obtain ⟨Ab, cb, rfl, hb1, hb2⟩ := hb.row.form
  refine fun_of_sw Tryz.func62 rfl 40 rfl rfl ?_
  have hH := Hp.start w
  refine sw_sr ?_
  refine gl_ops 3 [(0, .slice Ab b.length cb)] (by kernel_rfl) ?_
  refine gl_dn rfl ?_
  refine sw_sr ?_
  refine gl_ops 1 [(0, .slice Ab b.length cb), (9, .slice Ab b.length cb)] (by kernel_rfl) ?_
  refine gl_st (st_call rfl rfl rfl (by kernel_rfl) rfl (TakeNum_ct _ _ _ (hb.mono hH.zin)) ?_)
  rintro _ w1 ⟨rfl, hF2⟩
  replace hH := hH.call hF2; clear hF2
  refine gl_ops 7 [(0, .slice Ab b.length cb), (5, Ni ((takeNum b).1)), (6, Ni ((takeNum b).2.1)), (7, errV ((takeNum b).2.2))] (by kernel_rfl) ?_
  refine gl_dn rfl ?_
  refine sw_seq ?_
  refine sw_block ?_
  refine sw_sr ?_
  refine gl_ops 1 [(0, .slice Ab b.length cb), (5, Ni ((takeNum b).1)), (6, Ni ((takeNum b).2.1)), (7, errV ((takeNum b).2.2)), (15, errV ((takeNum b).2.2))] (by kernel_rfl) ?_
  refine gl_q rfl rfl rfl (rd_err_ne (by kernel_rfl) rfl) ?_
  refine gl_ops 1 [(0, .slice Ab b.length cb), (5, Ni ((takeNum b).1)), (6, Ni ((takeNum b).2.1)), (7, errV ((takeNum b).2.2)), (14, .bool (((takeNum b).2.2) != 0))] (by kernel_rfl) ?_
  refine gl_dn rfl ?_
  refine sw_cond rfl rfl (fun hc1 => ?_) (fun hc1 => ?_)
  ·
    try simp only [bne_iff_ne, ne_eq] at hc1
    refine sw_sr ?_
    refine gl_ops 4 [(2, .slice none 0 0), (3, .int .i64 0), (4, errV ((takeNum b).2.2))] (by kernel_rfl) ?_
    refine gl_dn rfl ?_
    refine sw_ret ?_
    refine bkR ?_
    refine thR ?_
    refine ret3 rfl rfl rfl rfl  ?_
    exact ⟨_, by unfold takeBlob; rw [if_pos (by omega)]; rfl, (hH.nilRow 5 1).cast (by unfold takeBlob; rw [if_pos (by omega)]; rfl) |>.fresh⟩
  try simp only [bne_eq_false_iff_eq] at hc1
  refine sw_sr ?_
  refine gl_ops 3 [(0, .slice Ab b.length cb), (5, Ni ((takeNum b).1)), (6, Ni ((takeNum b).2.1)), (18, .bool (decide ((((takeNum b).1 : Nat) : Int) > (65536 : Int))))] (by kernel_rfl) ?_
  refine gl_dn rfl ?_
  refine sw_cond rfl rfl (fun hc2 => ?_) (fun hc2 => ?_)
  ·
    try simp only [decide_eq_true_eq] at hc2
    refine sw_sr ?_
    refine gl_ops 4 [(2, .slice none 0 0), (3, .int .i64 0), (4, .iface 37 (.int .i64 2))] (by kernel_rfl) ?_
    refine gl_dn rfl ?_
    refine sw_ret ?_
    refine bkR ?_
    refine thR ?_
    refine ret3 rfl rfl rfl rfl  ?_
    exact ⟨_, by unfold takeBlob; rw [if_neg (by omega), if_pos (by omega)]; rfl, (hH.nilRow 5 1).cast (by unfold takeBlob; rw [if_neg (by omega), if_pos (by omega)]; rfl) |>.fresh⟩
  try simp only [decide_eq_false_iff_not, Int.not_lt, Int.not_le] at hc2
  refine sw_sr ?_
  refine gl_ops 2 [(0, .slice Ab b.length cb), (5, Ni ((takeNum b).1)), (6, Ni ((takeNum b).2.1)), (23, Ni ((takeNum b).1)), (24, .slice Ab b.length cb)] (by kernel_rfl) ?_
  refine gl_q rfl rfl rfl (rd_len (e := 5) (by kernel_rfl) rfl) ?_
  refine gl_ops 2 [(0, .slice Ab b.length cb), (5, Ni ((takeNum b).1)), (6, Ni ((takeNum b).2.1)), (23, Ni ((takeNum b).1)), (27, .int .i64 (IntKind.i64.wrap (((b.length : Nat) : Int) - (((takeNum b).2.1 : Nat) : Int))))] (by kernel_rfl) ?_
  refine gl_cv 27 (Ni (b.length - (takeNum b).2.1)) (cv_i64 (by omega)) rfl ?_
  refine gl_ops 2 [(0, .slice Ab b.length cb), (5, Ni ((takeNum b).1)), (6, Ni ((takeNum b).2.1)), (22, .bool (decide ((((takeNum b).1 : Nat) : Int) > ((b.length - (takeNum b).2.1 : Nat) : Int))))] (by kernel_rfl) ?_
  refine gl_dn rfl ?_
  refine sw_cond rfl rfl (fun hc3 => ?_) (fun hc3 => ?_)
  ·
    try simp only [decide_eq_true_eq] at hc3
    refine sw_sr ?_
    refine gl_ops 4 [(2, .slice none 0 0), (3, .int .i64 0), (4, .iface 37 (.int .i64 3))] (by kernel_rfl) ?_
    refine gl_dn rfl ?_
    refine sw_ret ?_
    refine bkR ?_
    refine thR ?_
    refine ret3 rfl rfl rfl rfl  ?_
    exact ⟨_, by unfold takeBlob; rw [if_neg (by omega), if_neg (by omega), if_pos (by omega)]; rfl, (hH.nilRow 5 1).cast (by unfold takeBlob; rw [if_neg (by omega), if_neg (by omega), if_pos (by omega)]; rfl) |>.fresh⟩
  try simp only [decide_eq_false_iff_not, Int.not_lt, Int.not_le] at hc3
  refine sw_skip ?_
  refine bkN ?_
  refine sw_next ?_
  refine sw_sr ?_
  refine gl_ops 5 [(5, Ni ((takeNum b).1)), (6, Ni ((takeNum b).2.1)), (30, .slice Ab b.length cb), (31, Ni ((takeNum b).2.1)), (34, .int .i64 (IntKind.i64.wrap ((((takeNum b).2.1 : Nat) : Int) + (((takeNum b).1 : Nat) : Int))))] (by kernel_rfl) ?_
  refine gl_cv 34 (Ni ((takeNum b).2.1 + (takeNum b).1)) (cv_i64 (by omega)) rfl ?_
  obtain ⟨A3, hk4, hv5⟩ := hb.row.cut (by decide) ((takeNum b).2.1) ((takeNum b).2.1 + (takeNum b).1) (by omega) (by omega)
  refine gl_q rfl rfl rfl (rd_cut (e := 5) (m := 1) (by kernel_rfl) (by kernel_rfl) rfl (.inr ⟨_, _, rfl, rfl⟩) (.inr ⟨_, _, rfl, rfl⟩) hk4) ?_
  have hr6 := RB.cut hv5 (by omega)
  have hcl : ((b.drop (takeNum b).2.1).take ((takeNum b).2.1 + (takeNum b).1 - (takeNum b).2.1)).length = (takeNum b).1 := by simp; omega
  replace hH := hH.nilRow 5 1
  refine gl_st (st_appH (e := 5) (zv := .int .u8 0) (m := 1) (bytes := 1) 0 rfl rfl rfl (by kernel_rfl) (by kernel_rfl) rfl (by decide) hH rfl rfl rfl (hr6.row.mono hH.zin) (bv_one _) (by unfold maxLen; omega) (by omega) ?_)
  clear hH; intro v7 w8 hH
  replace hH := hH.row_eq 0 (l' := ((b.drop ((takeNum b).2.1)).take (((takeNum b).2.1 + (takeNum b).1) - ((takeNum b).2.1))).length) (xs' := bv ((b.drop ((takeNum b).2.1)).take (((takeNum b).2.1 + (takeNum b).1) - ((takeNum b).2.1)))) rfl (Nat.zero_add _) (List.nil_append _)
  obtain ⟨A9, c10, rfl, hl11, hm12⟩ := hH.row_form 0 rfl
  refine gl_ops 3 [(36, .slice A9 (((b.drop ((takeNum b).2.1)).take (((takeNum b).2.1 + (takeNum b).1) - ((takeNum b).2.1))).length) c10), (39, .int .i64 (IntKind.i64.wrap ((((takeNum b).2.1 : Nat) : Int) + (((takeNum b).1 : Nat) : Int))))] (by kernel_rfl) ?_
  refine gl_cv 39 (Ni (((takeNum b).2.1) + ((takeNum b).1))) (cv_i64 (by omega)) rfl ?_
  refine gl_ops 3 [(2, .slice A9 (((b.drop ((takeNum b).2.1)).take (((takeNum b).2.1 + (takeNum b).1) - ((takeNum b).2.1))).length) c10), (3, Ni (((takeNum b).2.1) + ((takeNum b).1))), (4, .nilIface)] (by kernel_rfl) ?_
  refine gl_dn rfl ?_
  refine sw_ret ?_
  refine ret3 rfl rfl rfl rfl  ?_
  exact ⟨_, by unfold takeBlob; rw [if_neg (by omega), if_neg (by omega), if_neg (by omega)]; rfl, (hH.cast (by unfold takeBlob; rw [if_neg (by omega), if_neg (by omega), if_neg (by omega)]; simp [Nat.add_sub_cancel_left])).fresh⟩
theorem Put4_ct (v vb : Value) (n : Nat) (xs : List UInt8) (o l N : Nat) (w : World) (hM : Mine w [.row v 5 1 n (bv xs)]) (hW : Win v vb 1 o l) (h4 : 4 ≤ l) (hn : n = xs.length) (hl : o + l ≤ n) (hN : N < 9223372036854775808) :
    Fun Tryz.prog 83 [vb, .int .i64 N] w fun r w' => r = .tuple #[] ∧ Turn w w' [.row v 5 1 n (bv xs)] [.row v 5 1 n (bv (patch xs o (four N)))] := by
  have hW2 := hW
  obtain ⟨Ab, cb, rfl, -⟩ := hW2
  refine fun_of_sw Tryz.func83 rfl 23 rfl rfl ?_
  have hH := Hp.start_mine hM
  refine sw_region ?_
  refine gl_ops 6 [(1, Ni N), (4, .slice Ab l cb), (5, .slice Ab l cb), (6, .slice Ab l cb), (7, .slice Ab l cb), (9, .int .i64 (Int.fdiv ((N : Nat) : Int) (2 ^ 24)))] (by kernel_rfl) ?_
  refine gl_cv 9 (Ni (N / 16777216)) (cv_shr) rfl ?_
  refine gl_ops 1 [(1, Ni N), (4, .slice Ab l cb), (5, .slice Ab l cb), (6, .slice Ab l cb), (7, .slice Ab l cb), (10, .int .u8 (IntKind.u8.wrap ((N / 16777216 : Nat) : Int)))] (by kernel_rfl) ?_
  refine gl_cv 10 (.int .u8 (((UInt8.ofNat (N / 16777216)).toNat : Nat) : Int)) (cv_byte _) rfl ?_
  refine gl_ops 2 [(1, Ni N), (4, .slice Ab l cb), (5, .slice Ab l cb), (6, .slice Ab l cb), (7, .slice Ab l cb), (10, .int .u8 (((UInt8.ofNat (N / 16777216)).toNat : Nat) : Int)), (12, .int .i64 (Int.fdiv ((N : Nat) : Int) (2 ^ 16)))] (by kernel_rfl) ?_
  refine gl_cv 12 (Ni (N / 65536)) (cv_shr) rfl ?_
  refine gl_ops 1 [(1, Ni N), (4, .slice Ab l cb), (5, .slice Ab l cb), (6, .slice Ab l cb), (7, .slice Ab l cb), (10, .int .u8 (((UInt8.ofNat (N / 16777216)).toNat : Nat) : Int)), (13, .int .u8 (IntKind.u8.wrap ((N / 65536 : Nat) : Int)))] (by kernel_rfl) ?_
  refine gl_cv 13 (.int .u8 (((UInt8.ofNat (N / 65536)).toNat : Nat) : Int)) (cv_byte _) rfl ?_
  refine gl_ops 2 [(1, Ni N), (4, .slice Ab l cb), (5, .slice Ab l cb), (6, .slice Ab l cb), (7, .slice Ab l cb), (10, .int .u8 (((UInt8.ofNat (N / 16777216)).toNat : Nat) : Int)), (13, .int .u8 (((UInt8.ofNat (N / 65536)).toNat : Nat) : Int)), (15, .int .i64 (Int.fdiv ((N : Nat) : Int) (2 ^ 8)))] (by kernel_rfl) ?_
  refine gl_cv 15 (Ni (N / 256)) (cv_shr) rfl ?_
  refine gl_ops 1 [(1, Ni N), (4, .slice Ab l cb), (5, .slice Ab l cb), (6, .slice Ab l cb), (7, .slice Ab l cb), (10, .int .u8 (((UInt8.ofNat (N / 16777216)).toNat : Nat) : Int)), (13, .int .u8 (((UInt8.ofNat (N / 65536)).toNat : Nat) : Int)), (16, .int .u8 (IntKind.u8.wrap ((N / 256 : Nat) : Int)))] (by kernel_rfl) ?_
  refine gl_cv 16 (.int .u8 (((UInt8.ofNat (N / 256)).toNat : Nat) : Int)) (cv_byte _) rfl ?_
  refine gl_ops 2 [(4, .slice Ab l cb), (5, .slice Ab l cb), (6, .slice Ab l cb), (7, .slice Ab l cb), (10, .int .u8 (((UInt8.ofNat (N / 16777216)).toNat : Nat) : Int)), (13, .int .u8 (((UInt8.ofNat (N / 65536)).toNat : Nat) : Int)), (16, .int .u8 (((UInt8.ofNat (N / 256)).toNat : Nat) : Int)), (18, .int .u8 (IntKind.u8.wrap ((N : Nat) : Int)))] (by kernel_rfl) ?_
  refine gl_cv 18 (.int .u8 (((UInt8.ofNat N).toNat : Nat) : Int)) (cv_byte _) rfl ?_
  obtain ⟨b2, hb1, hi3⟩ := hW.idx 0 (by omega)
  refine gl_q rfl rfl rfl (rd_idx (e := 5) (m := 1) (by kernel_rfl) (by kernel_rfl) rfl rfl hi3) ?_
  refine gl_st (st_storeO (u := .int .u8 (((UInt8.ofNat (N / 16777216)).toNat : Nat) : Int)) 0 rfl rfl rfl hH rfl rfl rfl (by kernel_rfl) rfl hb1 (by simp [bv_length] <;> omega) ?_)
  clear hH; intro w4 hH
  obtain ⟨b6, hb5, hi7⟩ := hW.idx 1 (by omega)
  refine gl_q rfl rfl rfl (rd_idx (e := 5) (m := 1) (by kernel_rfl) (by kernel_rfl) rfl rfl hi7) ?_
  refine gl_st (st_storeO (u := .int .u8 (((UInt8.ofNat (N / 65536)).toNat : Nat) : Int)) 0 rfl rfl rfl hH rfl rfl rfl (by kernel_rfl) rfl hb5 (by simp [bv_length] <;> omega) ?_)
  clear hH; intro w8 hH
  obtain ⟨b10, hb9, hi11⟩ := hW.idx 2 (by omega)
  refine gl_q rfl rfl rfl (rd_idx (e := 5) (m := 1) (by kernel_rfl) (by kernel_rfl) rfl rfl hi11) ?_
  refine gl_st (st_storeO (u := .int .u8 (((UInt8.ofNat (N / 256)).toNat : Nat) : Int)) 0 rfl rfl rfl hH rfl rfl rfl (by kernel_rfl) rfl hb9 (by simp [bv_length] <;> omega) ?_)
  clear hH; intro w12 hH
  obtain ⟨b14, hb13, hi15⟩ := hW.idx 3 (by omega)
  refine gl_q rfl rfl rfl (rd_idx (e := 5) (m := 1) (by kernel_rfl) (by kernel_rfl) rfl rfl hi15) ?_
  refine gl_st (st_storeO (u := .int .u8 (((UInt8.ofNat N).toNat : Nat) : Int)) 0 rfl rfl rfl hH rfl rfl rfl (by kernel_rfl) rfl hb13 (by simp [bv_length] <;> omega) ?_)
  clear hH; intro w16 hH
  refine gl_done rfl ?_
  refine end0 rfl ?_
  exact ⟨rfl, (hH.row_eq 0 rfl rfl (put4_eq xs o N (by omega))).turned⟩
theorem Get4_ct (vb : Value) (b : List UInt8) (w : World) (hb : RB w.cell? vb b) (h4 : 4 ≤ b.length) :
    Fun Tryz.prog 86 [vb] w fun v w' => v = .int .i64 (get4 b : Nat) ∧ Fresh w w' [] := by
  have g0 := gb_lt b 0
  have g1 := gb_lt b 1
  have g2 := gb_lt b 2
  have g3 := gb_lt b 3
  obtain ⟨Ab, cb, rfl, hb1, hb2⟩ := hb.row.form
  refine fun_of_sw Tryz.func86 rfl 25 rfl rfl ?_
  have hH := Hp.start w
  refine sw_sr ?_
  refine gl_ops 1 [(0, .slice Ab b.length cb)] (by kernel_rfl) ?_
  refine gl_dn rfl ?_
  refine sw_seq ?_
  refine sw_draw (by kernel_rfl) (fun w_ => Hp w w_ (w.cell?) [] []) ?_
  replace hH := hH.drew
  generalize { w with drawn := w.drawn + 1 } = w1 at hH ⊢
  have hS9 := hH.sublist (List.nil_sublist _)
  refine gd_pure 0 rfl (by kernel_rfl) (PQ.th PQ.body) hS9 rfl rfl (.slice Ab b.length cb) (by kernel_rfl) ?_
  obtain ⟨p2, hi4, hp3⟩ := hb.row.idx 0 (by omega) (by decide)
  refine gd_q 1 rfl (by kernel_rfl) (PQ.th PQ.body) hS9 rfl rfl (fun w_ hS => (rd_idx (e := 5) (m := 1) (by kernel_rfl) (by kernel_rfl) rfl rfl hi4)) ?_
  refine gd_q 2 rfl (by kernel_rfl) (PQ.th PQ.body) hS9 rfl rfl (fun w_ hS => (rd_load (by kernel_rfl) rfl (hS.zin _ _ (hp3 0 _ (by decide) (bv_at b 0 (by omega)))))) ?_
  refine gd_keep [(0, .slice Ab b.length cb), (5, .int .u8 ((gb b 0 : Nat) : Int))] (by kernel_rfl) ?_
  refine gd_pure 3 rfl (by kernel_rfl) (PQ.th PQ.body) hS9 rfl rfl (.int .i64 (IntKind.i64.wrap ((gb b 0 : Nat) : Int))) (by kernel_rfl) ?_
  refine gd_cv 6 (Ni (gb b 0)) (cv_i64 (by omega)) rfl ?_
  refine gd_pure 4 rfl (by kernel_rfl) (PQ.th PQ.body) hS9 rfl rfl (.int .i64 (IntKind.i64.wrap (((gb b 0 : Nat) : Int) * 2 ^ 24))) (by kernel_rfl) ?_
  refine gd_cv 7 (Ni ((gb b 0) * 16777216)) (cv_shl_i64 (by omega)) rfl ?_
  refine gd_pure 5 rfl (by kernel_rfl) (PQ.th PQ.body) hS9 rfl rfl (.slice Ab b.length cb) (by kernel_rfl) ?_
  refine gd_keep [(0, .slice Ab b.length cb), (7, Ni ((gb b 0) * 16777216)), (8, .slice Ab b.length cb)] (by kernel_rfl) ?_
  obtain ⟨p5, hi7, hp6⟩ := hb.row.idx 1 (by omega) (by decide)
  refine gd_q 6 rfl (by kernel_rfl) (PQ.th PQ.body) hS9 rfl rfl (fun w_ hS => (rd_idx (e := 5) (m := 1) (by kernel_rfl) (by kernel_rfl) rfl rfl hi7)) ?_
  refine gd_q 7 rfl (by kernel_rfl) (PQ.th PQ.body) hS9 rfl rfl (fun w_ hS => (rd_load (by kernel_rfl) rfl (hS.zin _ _ (hp6 0 _ (by decide) (bv_at b 1 (by omega)))))) ?_
  refine gd_pure 8 rfl (by kernel_rfl) (PQ.th PQ.body) hS9 rfl rfl (.int .i64 (IntKind.i64.wrap ((gb b 1 : Nat) : Int))) (by kernel_rfl) ?_
  refine gd_cv 11 (Ni (gb b 1)) (cv_i64 (by omega)) rfl ?_
  refine gd_keep [(0, .slice Ab b.length cb), (7, Ni ((gb b 0) * 16777216)), (11, Ni (gb b 1))] (by kernel_rfl) ?_
  refine gd_pure 9 rfl (by kernel_rfl) (PQ.th PQ.body) hS9 rfl rfl (.int .i64 (IntKind.i64.wrap (((gb b 1 : Nat) : Int) * 2 ^ 16))) (by kernel_rfl) ?_
  refine gd_cv 12 (Ni ((gb b 1) * 65536)) (cv_shl_i64 (by omega)) rfl ?_
  refine gd_pure 10 rfl (by kernel_rfl) (PQ.th PQ.body) hS9 rfl rfl (.int .i64 (IntKind.i64.wrap (((BitVec.ofInt 64 (((gb b 0) * 16777216 : Nat) : Int) ||| BitVec.ofInt 64 (((gb b 1) * 65536 : Nat) : Int)).toNat : Nat) : Int))) (by kernel_rfl) ?_
  refine gd_cv 13 (Ni (gb b 0 * 16777216 + gb b 1 * 65536)) (by rw [cv_or_i64 (by omega) (by omega), get4_or1]) rfl ?_
  refine gd_pure 11 rfl (by kernel_rfl) (PQ.th PQ.body) hS9 rfl rfl (.slice Ab b.length cb) (by kernel_rfl) ?_
  refine gd_keep [(0, .slice Ab b.length cb), (13, Ni (gb b 0 * 16777216 + gb b 1 * 65536)), (14, .slice Ab b.length cb)] (by kernel_rfl) ?_
  obtain ⟨p8, hi10, hp9⟩ := hb.row.idx 2 (by omega) (by decide)
  refine gd_q 12 rfl (by kernel_rfl) (PQ.th PQ.body) hS9 rfl rfl (fun w_ hS => (rd_idx (e := 5) (m := 1) (by kernel_rfl) (by kernel_rfl) rfl rfl hi10)) ?_
  refine gd_q 13 rfl (by kernel_rfl) (PQ.th PQ.body) hS9 rfl rfl (fun w_ hS => (rd_load (by kernel_rfl) rfl (hS.zin _ _ (hp9 0 _ (by decide) (bv_at b 2 (by omega)))))) ?_
  refine gd_pure 14 rfl (by kernel_rfl) (PQ.th PQ.body) hS9 rfl rfl (.int .i64 (IntKind.i64.wrap ((gb b 2 : Nat) : Int))) (by kernel_rfl) ?_
  refine gd_cv 17 (Ni (gb b 2)) (cv_i64 (by omega)) rfl ?_
  refine gd_keep [(0, .slice Ab b.length cb), (13, Ni (gb b 0 * 16777216 + gb b 1 * 65536)), (17, Ni (gb b 2))] (by kernel_rfl) ?_
  refine gd_pure 15 rfl (by kernel_rfl) (PQ.th PQ.body) hS9 rfl rfl (.int .i64 (IntKind.i64.wrap (((gb b 2 : Nat) : Int) * 2 ^ 8))) (by kernel_rfl) ?_
  refine gd_cv 18 (Ni ((gb b 2) * 256)) (cv_shl_i64 (by omega)) rfl ?_
  refine gd_pure 16 rfl (by kernel_rfl) (PQ.th PQ.body) hS9 rfl rfl (.int .i64 (IntKind.i64.wrap (((BitVec.ofInt 64 ((gb b 0 * 16777216 + gb b 1 * 65536 : Nat) : Int) ||| BitVec.ofInt 64 (((gb b 2) * 256 : Nat) : Int)).toNat : Nat) : Int))) (by kernel_rfl) ?_
  refine gd_cv 19 (Ni (gb b 0 * 16777216 + gb b 1 * 65536 + gb b 2 * 256)) (by rw [cv_or_i64 (by omega) (by omega), get4_or2]) rfl ?_
  refine gd_pure 17 rfl (by kernel_rfl) (PQ.th PQ.body) hS9 rfl rfl (.slice Ab b.length cb) (by kernel_rfl) ?_
  refine gd_keep [(19, Ni (gb b 0 * 16777216 + gb b 1 * 65536 + gb b 2 * 256)), (20, .slice Ab b.length cb)] (by kernel_rfl) ?_
  obtain ⟨p11, hi13, hp12⟩ := hb.row.idx 3 (by omega) (by decide)
  refine gd_q 18 rfl (by kernel_rfl) (PQ.th PQ.body) hS9 rfl rfl (fun w_ hS => (rd_idx (e := 5) (m := 1) (by kernel_rfl) (by kernel_rfl) rfl rfl hi13)) ?_
  refine gd_q 19 rfl (by kernel_rfl) (PQ.th PQ.body) hS9 rfl rfl (fun w_ hS => (rd_load (by kernel_rfl) rfl (hS.zin _ _ (hp12 0 _ (by decide) (bv_at b 3 (by omega)))))) ?_
  refine gd_pure 20 rfl (by kernel_rfl) (PQ.th PQ.body) hS9 rfl rfl (.int .i64 (IntKind.i64.wrap ((gb b 3 : Nat) : Int))) (by kernel_rfl) ?_
  refine gd_cv 23 (Ni (gb b 3)) (cv_i64 (by omega)) rfl ?_
  refine gd_keep [(19, Ni (gb b 0 * 16777216 + gb b 1 * 65536 + gb b 2 * 256)), (23, Ni (gb b 3))] (by kernel_rfl) ?_
  refine gd_pure 21 rfl (by kernel_rfl) (PQ.th PQ.body) hS9 rfl rfl (.int .i64 (IntKind.i64.wrap (((BitVec.ofInt 64 ((gb b 0 * 16777216 + gb b 1 * 65536 + gb b 2 * 256 : Nat) : Int) ||| BitVec.ofInt 64 ((gb b 3 : Nat) : Int)).toNat : Nat) : Int))) (by kernel_rfl) ?_
  refine gd_cv 24 (Ni (get4 b)) (by rw [cv_or_i64 (by omega) (by omega), get4_or3]) rfl ?_
  refine gd_pure 22 rfl (by kernel_rfl) (PQ.th PQ.body) hS9 rfl rfl (Ni (get4 b)) (by kernel_rfl) ?_
  refine gd_done (by kernel_rfl) ?_
  refine at_sub [(2, Ni (get4 b))] (Sub.of_eq (by kernel_rfl)) ?_
  refine sw_next ?_
  refine sw_ret ?_
  refine ret1 rfl rfl  ?_
  exact ⟨rfl, hH.fresh⟩
theorem Sum_ct (vb : Value) (b : List UInt8) (w : World) (hb : RB w.cell? vb b) :
    Fun Tryz.prog 84 [vb] w fun v w' => v = .int .i64 (crc b : Nat) ∧ Fresh w w' [] := by
  have hbl : b.length ≤ 9223372036854775807 := RB.le hb
  have hcrc := crc_lt b
  have hcrc0 := crc0_lt b
  obtain ⟨Ab, cb, rfl, hb1, hb2⟩ := hb.row.form
  refine fun_of_sw Tryz.func84 rfl 56 rfl rfl ?_
  have hH := Hp.start w
  refine sw_sr ?_
  refine gl_ops 1 [(0, .slice Ab b.length cb)] (by kernel_rfl) ?_
  refine gl_dn rfl ?_
  refine sw_sr ?_
  refine gl_st (st_allocH rfl rfl rfl (cs := [.int .u32 0, .int .u32 0, .int .u32 0, .int .u32 0, .int .u32 0, .int .u32 0, .int .u32 0, .int .u32 0, .int .u32 0, .int .u32 0, .int .u32 0, .int .u32 0, .int .u32 0, .int .u32 0, .int .u32 0, .int .u32 0]) (by kernel_rfl) hH ?_)
  clear hH; intro b1 w2 hH
  refine gl_dn rfl ?_
  refine sw_seq ?_
  refine sw_sr ?_
  refine gl_ops 1 [(0, .slice Ab b.length cb), (3, Pp b1 0), (9, .int .i64 0)] (by kernel_rfl) ?_
  refine gl_dn rfl ?_
  refine sw_block ?_
  refine sw_loop (γ := Nat) (fun i => [(0, .slice Ab b.length cb), (3, Pp b1 0), (9, Ni i)]) (fun i w_ => (i ≤ 16) ∧ Hp w w_ (w.cell?) [] [.blk b1 185 (tabL i)]) (fun i => 16 - i) (0) (Sub.of_eq (by kernel_rfl)) ?_ ?_
  · exact ⟨by omega, hH⟩
  clear hH
  rintro i w3 ⟨hi, hH⟩
  refine sw_keep [(0, .slice Ab b.length cb), (3, Pp b1 0), (9, Ni i)] (by kernel_rfl) ?_
  refine sw_sr ?_
  refine gl_ops 1 [(0, .slice Ab b.length cb), (3, Pp b1 0), (9, Ni i), (10, .bool (decide (((i : Nat) : Int) < (16 : Int))))] (by kernel_rfl) ?_
  refine gl_dn rfl ?_
  refine sw_seq ?_
  refine sw_cond rfl rfl (fun hc1 => ?_) (fun hc1 => ?_)
  ·
    try simp only [decide_eq_true_eq] at hc1
    refine sw_skip ?_
    refine sw_next ?_
    refine sw_seq ?_
    refine sw_block ?_
    refine sw_sr ?_
    refine gl_ops 2 [(0, .slice Ab b.length cb), (3, Pp b1 0), (4, Ni i), (9, Ni i)] (by kernel_rfl) ?_
    refine gl_dn rfl ?_
    refine sw_sr ?_
    refine gl_ops 2 [(0, .slice Ab b.length cb), (3, Pp b1 0), (4, Ni i), (9, Ni i), (13, .int .u32 (IntKind.u32.wrap ((i : Nat) : Int)))] (by kernel_rfl) ?_
    refine gl_cv 13 (.int .u32 ((i : Nat) : Int)) (cv_u32 (by omega)) rfl ?_
    refine gl_ops 1 [(0, .slice Ab b.length cb), (3, Pp b1 0), (4, Ni i), (5, .int .u32 ((i : Nat) : Int)), (9, Ni i)] (by kernel_rfl) ?_
    refine gl_dn rfl ?_
    refine sw_seq ?_
    refine sw_sr ?_
    refine gl_ops 1 [(0, .slice Ab b.length cb), (3, Pp b1 0), (4, Ni i), (5, .int .u32 ((i : Nat) : Int)), (9, Ni i), (14, .int .i64 0)] (by kernel_rfl) ?_
    refine gl_dn rfl ?_
    refine sw_block ?_
    refine sw_loop (γ := Nat) (fun k => [(0, .slice Ab b.length cb), (3, Pp b1 0), (4, Ni i), (5, .int .u32 ((stepN k i : Nat) : Int)), (9, Ni i), (14, Ni k)]) (fun k w_ => (k ≤ 4) ∧ Hp w w_ (w.cell?) [] [.blk b1 185 (tabL i)]) (fun k => 4 - k) (0) (Sub.of_eq (by kernel_rfl)) ?_ ?_
    · exact ⟨by omega, hH⟩
    clear hH
    rintro k w4 ⟨hk, hH⟩
    have hv := stepN_lt k (v := i) (by omega)
    refine sw_keep [(0, .slice Ab b.length cb), (3, Pp b1 0), (4, Ni i), (5, .int .u32 ((stepN k i : Nat) : Int)), (9, Ni i), (14, Ni k)] (by kernel_rfl) ?_
    refine sw_sr ?_
    refine gl_ops 1 [(0, .slice Ab b.length cb), (3, Pp b1 0), (4, Ni i), (5, .int .u32 ((stepN k i : Nat) : Int)), (9, Ni i), (14, Ni k), (15, .bool (decide (((k : Nat) : Int) < (4 : Int))))] (by kernel_rfl) ?_
    refine gl_dn rfl ?_
    refine sw_seq ?_
    refine sw_cond rfl rfl (fun hc2 => ?_) (fun hc2 => ?_)
    ·
      try simp only [decide_eq_true_eq] at hc2
      refine sw_skip ?_
      refine sw_next ?_
      refine sw_seq ?_
      refine sw_block ?_
      refine sw_region ?_
      refine gl_ops 2 [(0, .slice Ab b.length cb), (3, Pp b1 0), (4, Ni i), (5, .int .u32 ((stepN k i : Nat) : Int)), (9, Ni i), (14, Ni k), (17, .int .u32 (Int.fdiv ((stepN k i : Nat) : Int) (2 ^ 1)))] (by kernel_rfl) ?_
      refine gl_cv 17 (.int .u32 (((stepN k i) / 2 : Nat) : Int)) (cv_shr) rfl ?_
      refine gl_ops 2 [(0, .slice Ab b.length cb), (3, Pp b1 0), (4, Ni i), (9, Ni i), (14, Ni k), (17, .int .u32 (((stepN k i) / 2 : Nat) : Int)), (19, .int .u32 (IntKind.u32.wrap (((BitVec.ofInt 32 ((stepN k i : Nat) : Int) &&& BitVec.ofInt 32 1).toNat : Nat) : Int)))] (by kernel_rfl) ?_
      refine gl_cv 19 (.int .u32 ((stepN k i % 2 : Nat) : Int)) (cv_and1 hv) rfl ?_
      refine gl_ops 1 [(0, .slice Ab b.length cb), (3, Pp b1 0), (4, Ni i), (9, Ni i), (14, Ni k), (17, .int .u32 (((stepN k i) / 2 : Nat) : Int)), (20, .int .u32 (IntKind.u32.wrap (0 - ((stepN k i % 2 : Nat) : Int))))] (by kernel_rfl) ?_
      refine gl_cv 20 (.int .u32 ((stepN k i % 2 * 4294967295 : Nat) : Int)) (cv_negbit _) rfl ?_
      refine gl_ops 1 [(0, .slice Ab b.length cb), (3, Pp b1 0), (4, Ni i), (9, Ni i), (14, Ni k), (17, .int .u32 (((stepN k i) / 2 : Nat) : Int)), (21, .int .u32 (IntKind.u32.wrap (((BitVec.ofInt 32 2197175160 &&& BitVec.ofInt 32 ((stepN k i % 2 * 4294967295 : Nat) : Int)).toNat : Nat) : Int)))] (by kernel_rfl) ?_
      refine gl_cv 21 (.int .u32 ((msk (stepN k i) : Nat) : Int)) (cv_msk _) rfl ?_
      refine gl_ops 1 [(0, .slice Ab b.length cb), (3, Pp b1 0), (4, Ni i), (9, Ni i), (14, Ni k), (22, .int .u32 (IntKind.u32.wrap (((BitVec.ofInt 32 (((stepN k i) / 2 : Nat) : Int) ^^^ BitVec.ofInt 32 ((msk (stepN k i) : Nat) : Int)).toNat : Nat) : Int)))] (by kernel_rfl) ?_
      refine gl_cv 22 (.int .u32 ((stepN (k + 1) i : Nat) : Int)) (by rw [cv_xor_u32 (by omega) (msk_lt _)]; rfl) rfl ?_
      refine gl_ops 1 [(0, .slice Ab b.length cb), (3, Pp b1 0), (4, Ni i), (5, .int .u32 ((stepN (k + 1) i : Nat) : Int)), (9, Ni i), (14, Ni k)] (by kernel_rfl) ?_
      refine gl_done rfl ?_
      refine bkN ?_
      refine sw_next ?_
      refine sw_region ?_
      refine gl_ops 1 [(0, .slice Ab b.length cb), (3, Pp b1 0), (4, Ni i), (5, .int .u32 ((stepN (k + 1) i : Nat) : Int)), (9, Ni i), (23, .int .i64 (IntKind.i64.wrap (((k : Nat) : Int) + 1)))] (by kernel_rfl) ?_
      refine gl_cv 23 (Ni (k + 1)) (cv_i64 (by omega)) rfl ?_
      refine gl_ops 1 [(0, .slice Ab b.length cb), (3, Pp b1 0), (4, Ni i), (5, .int .u32 ((stepN (k + 1) i : Nat) : Int)), (9, Ni i), (14, Ni (k + 1))] (by kernel_rfl) ?_
      refine gl_done rfl ?_
      refine rnd_end (g := (k)) (k + 1) (by kernel_rfl) ?_ ?_
      · exact ⟨by omega, hH⟩
      · show 4 - (k + 1) < 4 - k; omega
    try simp only [decide_eq_false_iff_not, Int.not_lt, Int.not_le] at hc2
    refine sw_exit ?_
    refine thX ?_
    refine thX ?_
    refine bkH ?_
    refine sw_next ?_
    refine sw_region ?_
    refine gl_ops 2 [(0, .slice Ab b.length cb), (3, Pp b1 0), (9, Ni i), (24, Ni i), (25, .int .u32 ((stepN k i : Nat) : Int))] (by kernel_rfl) ?_
    refine gl_q rfl rfl rfl (rd_idxA (l := 16) (e := 183) (m := 1) (by kernel_rfl) (by kernel_rfl) rfl i rfl (by omega)) ?_
    refine gl_st (st_storeK (v := .int .u32 ((stepN k i : Nat) : Int)) 0 rfl rfl rfl hH rfl rfl rfl (by kernel_rfl) rfl (by rw [tabL_length]; omega) ?_)
    clear hH; intro w5 hH
    replace hH := hH.blk_eq 0 (cs' := tabL (i + 1)) rfl (by rw [Nat.zero_add, Nat.mul_one, show k = 4 from by omega]; exact tabL_set i (by omega))
    refine gl_done rfl ?_
    refine bkN ?_
    refine sw_next ?_
    refine sw_region ?_
    refine gl_ops 1 [(0, .slice Ab b.length cb), (3, Pp b1 0), (27, .int .i64 (IntKind.i64.wrap (((i : Nat) : Int) + 1)))] (by kernel_rfl) ?_
    refine gl_cv 27 (Ni (i + 1)) (cv_i64 (by omega)) rfl ?_
    refine gl_ops 1 [(0, .slice Ab b.length cb), (3, Pp b1 0), (9, Ni (i + 1))] (by kernel_rfl) ?_
    refine gl_done rfl ?_
    refine rnd_end (g := (i)) (i + 1) (by kernel_rfl) ?_ ?_
    · exact ⟨by omega, hH⟩
    · show 16 - (i + 1) < 16 - i; omega
  try simp only [decide_eq_false_iff_not, Int.not_lt, Int.not_le] at hc1
  refine sw_exit ?_
  refine thX ?_
  refine thX ?_
  refine bkH ?_
  refine sw_next ?_
  refine sw_sr ?_
  refine gl_ops 1 [(0, .slice Ab b.length cb), (3, Pp b1 0), (6, .int .u32 4294967295)] (by kernel_rfl) ?_
  refine gl_dn rfl ?_
  refine sw_seq ?_
  refine sw_sr ?_
  refine gl_ops 1 [(3, Pp b1 0), (6, .int .u32 4294967295), (28, .slice Ab b.length cb)] (by kernel_rfl) ?_
  refine gl_q rfl rfl rfl (rd_len (e := 5) (by kernel_rfl) rfl) ?_
  refine gl_ops 1 [(3, Pp b1 0), (6, .int .u32 4294967295), (28, .slice Ab b.length cb), (29, Ni b.length), (30, .int .i64 0)] (by kernel_rfl) ?_
  refine gl_dn rfl ?_
  refine sw_block ?_
  refine sw_loop (γ := Nat) (fun j => [(3, Pp b1 0), (6, .int .u32 ((crc0 (b.take j) : Nat) : Int)), (28, .slice Ab b.length cb), (29, Ni b.length), (30, Ni j)]) (fun j w_ => (j ≤ b.length) ∧ Hp w w_ (w.cell?) [] [.blk b1 185 (tabL i)]) (fun j => b.length - j) (0) (Sub.of_eq (by kernel_rfl)) ?_ ?_
  · exact ⟨by omega, hH⟩
  clear hH
  rintro j w6 ⟨hj, hH⟩
  have hs := crc0_lt (b.take j)
  have hgj := gb_lt b j
  refine sw_keep [(3, Pp b1 0), (6, .int .u32 ((crc0 (b.take j) : Nat) : Int)), (28, .slice Ab b.length cb), (29, Ni b.length), (30, Ni j)] (by kernel_rfl) ?_
  refine sw_sr ?_
  refine gl_ops 1 [(3, Pp b1 0), (6, .int .u32 ((crc0 (b.take j) : Nat) : Int)), (28, .slice Ab b.length cb), (29, Ni b.length), (30, Ni j), (31, .bool (decide (((j : Nat) : Int) < ((b.length : Nat) : Int))))] (by kernel_rfl) ?_
  refine gl_dn rfl ?_
  refine sw_seq ?_
  refine sw_cond rfl rfl (fun hc3 => ?_) (fun hc3 => ?_)
  ·
    try simp only [decide_eq_true_eq] at hc3
    refine sw_skip ?_
    refine sw_next ?_
    refine sw_seq ?_
    refine sw_block ?_
    refine sw_sr ?_
    obtain ⟨p7, hi9, hp8⟩ := hb.row.idx j (by omega) (by decide)
    refine gl_q rfl rfl rfl (rd_idx (e := 5) (m := 1) (by kernel_rfl) (by kernel_rfl) rfl rfl hi9) ?_
    refine gl_q rfl rfl rfl (rd_load (by kernel_rfl) rfl (hH.zin _ _ (hp8 0 _ (by decide) (bv_at b j (by omega))))) ?_
    refine gl_ops 1 [(3, Pp b1 0), (6, .int .u32 ((crc0 (b.take j) : Nat) : Int)), (8, .int .u8 ((gb b j : Nat) : Int)), (28, .slice Ab b.length cb), (29, Ni b.length), (30, Ni j)] (by kernel_rfl) ?_
    refine gl_dn rfl ?_
    refine sw_sr ?_
    refine gl_ops 3 [(3, Pp b1 0), (28, .slice Ab b.length cb), (29, Ni b.length), (30, Ni j), (34, .int .u32 ((crc0 (b.take j) : Nat) : Int)), (36, .int .u32 (IntKind.u32.wrap ((gb b j : Nat) : Int)))] (by kernel_rfl) ?_
    refine gl_cv 36 (.int .u32 ((gb b j : Nat) : Int)) (cv_u32 (by omega)) rfl ?_
    refine gl_ops 1 [(3, Pp b1 0), (28, .slice Ab b.length cb), (29, Ni b.length), (30, Ni j), (37, .int .u32 (IntKind.u32.wrap (((BitVec.ofInt 32 ((crc0 (b.take j) : Nat) : Int) ^^^ BitVec.ofInt 32 ((gb b j : Nat) : Int)).toNat : Nat) : Int)))] (by kernel_rfl) ?_
    refine gl_cv 37 (.int .u32 ((crc0 (b.take j) ^^^ gb b j : Nat) : Int)) (cv_xor_u32 (by omega) (by omega)) rfl ?_
    refine gl_ops 1 [(3, Pp b1 0), (6, .int .u32 ((crc0 (b.take j) ^^^ gb b j : Nat) : Int)), (28, .slice Ab b.length cb), (29, Ni b.length), (30, Ni j)] (by kernel_rfl) ?_
    refine gl_dn rfl ?_
    refine sw_sr ?_
    have hx0 : (crc0 (b.take j) ^^^ gb b j) < 4294967296 := Nat.xor_lt_two_pow (n := 32) hs (by omega)
    have ht1 : tab ((crc0 (b.take j) ^^^ gb b j) % 16) < 4294967296 := stepN_lt 4 (by omega)
    refine gl_ops 2 [(3, Pp b1 0), (6, .int .u32 ((crc0 (b.take j) ^^^ gb b j : Nat) : Int)), (28, .slice Ab b.length cb), (29, Ni b.length), (30, Ni j), (39, .int .u32 (Int.fdiv ((crc0 (b.take j) ^^^ gb b j : Nat) : Int) (2 ^ 4)))] (by kernel_rfl) ?_
    refine gl_cv 39 (.int .u32 (((crc0 (b.take j) ^^^ gb b j) / 16 : Nat) : Int)) (cv_shr) rfl ?_
    refine gl_ops 2 [(3, Pp b1 0), (28, .slice Ab b.length cb), (29, Ni b.length), (30, Ni j), (39, .int .u32 (((crc0 (b.take j) ^^^ gb b j) / 16 : Nat) : Int)), (41, .int .u32 (IntKind.u32.wrap (((BitVec.ofInt 32 ((crc0 (b.take j) ^^^ gb b j : Nat) : Int) &&& BitVec.ofInt 32 15).toNat : Nat) : Int)))] (by kernel_rfl) ?_
    refine gl_cv 41 (.int .u32 (((crc0 (b.take j) ^^^ gb b j) % 16 : Nat) : Int)) (cv_and15 hx0) rfl ?_
    refine gl_q rfl rfl rfl (rd_idxA (l := 16) (e := 183) (m := 1) (by kernel_rfl) (by kernel_rfl) rfl ((crc0 (b.take j) ^^^ gb b j) % 16) rfl (by omega)) ?_
    refine gl_q rfl rfl rfl (rd_loadK 0 (by kernel_rfl) hH rfl rfl (by rw [Nat.zero_add, Nat.mul_one, show i = 16 from by omega]; exact tabL_get _ (by omega))) ?_
    refine gl_ops 1 [(3, Pp b1 0), (28, .slice Ab b.length cb), (29, Ni b.length), (30, Ni j), (44, .int .u32 (IntKind.u32.wrap (((BitVec.ofInt 32 (((crc0 (b.take j) ^^^ gb b j) / 16 : Nat) : Int) ^^^ BitVec.ofInt 32 ((tab ((crc0 (b.take j) ^^^ gb b j) % 16) : Nat) : Int)).toNat : Nat) : Int)))] (by kernel_rfl) ?_
    refine gl_cv 44 (.int .u32 ((nib (crc0 (b.take j) ^^^ gb b j) : Nat) : Int)) (by rw [cv_xor_u32 (by omega) ht1]; rfl) rfl ?_
    refine gl_ops 1 [(3, Pp b1 0), (6, .int .u32 ((nib (crc0 (b.take j) ^^^ gb b j) : Nat) : Int)), (28, .slice Ab b.length cb), (29, Ni b.length), (30, Ni j)] (by kernel_rfl) ?_
    refine gl_dn rfl ?_
    refine sw_region ?_
    have hx1 := nib_lt hx0
    have ht2 : tab (nib (crc0 (b.take j) ^^^ gb b j) % 16) < 4294967296 := stepN_lt 4 (by omega)
    refine gl_ops 2 [(3, Pp b1 0), (6, .int .u32 ((nib (crc0 (b.take j) ^^^ gb b j) : Nat) : Int)), (28, .slice Ab b.length cb), (29, Ni b.length), (30, Ni j), (46, .int .u32 (Int.fdiv ((nib (crc0 (b.take j) ^^^ gb b j) : Nat) : Int) (2 ^ 4)))] (by kernel_rfl) ?_
    refine gl_cv 46 (.int .u32 (((nib (crc0 (b.take j) ^^^ gb b j)) / 16 : Nat) : Int)) (cv_shr) rfl ?_
    refine gl_ops 2 [(3, Pp b1 0), (28, .slice Ab b.length cb), (29, Ni b.length), (30, Ni j), (46, .int .u32 (((nib (crc0 (b.take j) ^^^ gb b j)) / 16 : Nat) : Int)), (48, .int .u32 (IntKind.u32.wrap (((BitVec.ofInt 32 ((nib (crc0 (b.take j) ^^^ gb b j) : Nat) : Int) &&& BitVec.ofInt 32 15).toNat : Nat) : Int)))] (by kernel_rfl) ?_
    refine gl_cv 48 (.int .u32 ((nib (crc0 (b.take j) ^^^ gb b j) % 16 : Nat) : Int)) (cv_and15 hx1) rfl ?_
    refine gl_q rfl rfl rfl (rd_idxA (l := 16) (e := 183) (m := 1) (by kernel_rfl) (by kernel_rfl) rfl (nib (crc0 (b.take j) ^^^ gb b j) % 16) rfl (by omega)) ?_
    refine gl_q rfl rfl rfl (rd_loadK 0 (by kernel_rfl) hH rfl rfl (by rw [Nat.zero_add, Nat.mul_one, show i = 16 from by omega]; exact tabL_get _ (by omega))) ?_
    refine gl_ops 1 [(3, Pp b1 0), (28, .slice Ab b.length cb), (29, Ni b.length), (30, Ni j), (51, .int .u32 (IntKind.u32.wrap (((BitVec.ofInt 32 (((nib (crc0 (b.take j) ^^^ gb b j)) / 16 : Nat) : Int) ^^^ BitVec.ofInt 32 ((tab (nib (crc0 (b.take j) ^^^ gb b j) % 16) : Nat) : Int)).toNat : Nat) : Int)))] (by kernel_rfl) ?_
    refine gl_cv 51 (.int .u32 ((crc0 (b.take (j + 1)) : Nat) : Int)) (by rw [cv_xor_u32 (by omega) ht2, crc0_step b j (by omega)]; rfl) rfl ?_
    refine gl_ops 1 [(3, Pp b1 0), (6, .int .u32 ((crc0 (b.take (j + 1)) : Nat) : Int)), (28, .slice Ab b.length cb), (29, Ni b.length), (30, Ni j)] (by kernel_rfl) ?_
    refine gl_done rfl ?_
    refine bkN ?_
    refine sw_next ?_
    refine sw_region ?_
    refine gl_ops 1 [(3, Pp b1 0), (6, .int .u32 ((crc0 (b.take (j + 1)) : Nat) : Int)), (28, .slice Ab b.length cb), (29, Ni b.length), (52, .int .i64 (IntKind.i64.wrap (((j : Nat) : Int) + 1)))] (by kernel_rfl) ?_
    refine gl_cv 52 (Ni (j + 1)) (cv_i64 (by omega)) rfl ?_
    refine gl_ops 1 [(3, Pp b1 0), (6, .int .u32 ((crc0 (b.take (j + 1)) : Nat) : Int)), (28, .slice Ab b.length cb), (29, Ni b.length), (30, Ni (j + 1))] (by kernel_rfl) ?_
    refine gl_done rfl ?_
    refine rnd_end (g := (j)) (j + 1) (by kernel_rfl) ?_ ?_
    · exact ⟨by omega, hH⟩
    · show b.length - (j + 1) < b.length - j; omega
  try simp only [decide_eq_false_iff_not, Int.not_lt, Int.not_le] at hc3
  refine sw_exit ?_
  refine thX ?_
  refine thX ?_
  refine bkH ?_
  refine sw_next ?_
  refine sw_sr ?_
  have hjl : j = b.length := by omega
  refine gl_ops 2 [(54, .int .u32 (IntKind.u32.wrap (((BitVec.ofInt 32 4294967295 ^^^ BitVec.ofInt 32 ((crc0 (b.take j) : Nat) : Int)).toNat : Nat) : Int)))] (by kernel_rfl) ?_
  refine gl_cv 54 (.int .u32 ((crc b : Nat) : Int)) (cv_crc b j hjl) rfl ?_
  refine gl_ops 1 [(55, .int .i64 (IntKind.i64.wrap ((crc b : Nat) : Int)))] (by kernel_rfl) ?_
  refine gl_cv 55 (Ni (crc b)) (cv_i64 (by omega)) rfl ?_
  refine gl_ops 1 [(2, Ni (crc b))] (by kernel_rfl) ?_
  refine gl_dn rfl ?_
  refine sw_ret ?_
  refine ret1 rfl rfl  ?_
  exact ⟨rfl, (hH.sublist (List.nil_sublist _)).fresh⟩
theorem Frame_ct (vp : Value) (p : List UInt8) (w : World) (hp : RB w.cell? vp p) :
    Fun Tryz.prog 56 [vp] w fun v w' => ∃ v1, v = .tuple #[v1, errV (if 1048576 < p.length then 2 else 0)] ∧ Fresh w w' [.row v1 5 1 (frameO p).length (bv (frameO p))] := by
  have hpl : p.length ≤ 9223372036854775807 := RB.le hp
  obtain ⟨Ap, cp, rfl, hp1, hp2⟩ := hp.row.form
  have hcl := crc_lt (four p.length ++ p)
  refine fun_of_sw Tryz.func56 rfl 32 rfl rfl ?_
  have hH := Hp.start w
  refine sw_sr ?_
  refine gl_ops 2 [(0, .slice Ap p.length cp)] (by kernel_rfl) ?_
  refine gl_dn rfl ?_
  refine sw_sr ?_
  refine gl_ops 1 [(0, .slice Ap p.length cp), (6, .slice Ap p.length cp)] (by kernel_rfl) ?_
  refine gl_q rfl rfl rfl (rd_len (e := 5) (by kernel_rfl) rfl) ?_
  refine gl_ops 1 [(0, .slice Ap p.length cp), (4, Ni p.length)] (by kernel_rfl) ?_
  refine gl_dn rfl ?_
  refine sw_seq ?_
  refine sw_sr ?_
  refine gl_ops 2 [(0, .slice Ap p.length cp), (4, Ni p.length), (9, .bool (decide (((p.length : Nat) : Int) > (1048576 : Int))))] (by kernel_rfl) ?_
  refine gl_dn rfl ?_
  refine sw_cond rfl rfl (fun hc1 => ?_) (fun hc1 => ?_)
  ·
    try simp only [decide_eq_true_eq] at hc1
    refine sw_sr ?_
    refine gl_ops 3 [(2, .slice none 0 0), (3, .iface 37 (.int .i64 2))] (by kernel_rfl) ?_
    refine gl_dn rfl ?_
    refine sw_ret ?_
    refine thR ?_
    refine ret2 rfl rfl rfl  ?_
    exact ⟨_, by rw [if_pos (by omega)]; rfl, (hH.nilRow 5 1).cast (by simp [frameO, show 1048576 < p.length from by omega, bv]) |>.fresh⟩
  try simp only [decide_eq_false_iff_not, Int.not_lt, Int.not_le] at hc1
  refine sw_skip ?_
  refine sw_next ?_
  refine sw_sr ?_
  refine gl_ops 2 [(0, .slice Ap p.length cp), (4, Ni p.length), (12, .int .i64 (IntKind.i64.wrap (((p.length : Nat) : Int) + 8)))] (by kernel_rfl) ?_
  refine gl_cv 12 (Ni (p.length + 8)) (cv_i64 (by omega)) rfl ?_
  refine gl_st (st_makeH (e := 5) (zv := .int .u8 0) (bytes := 1) rfl rfl rfl (by kernel_rfl) (by kernel_rfl) rfl (p.length + 8) rfl rfl (by omega) (by unfold maxLen; omega) hH ?_)
  clear hH; intro v1 w2 hH
  obtain ⟨A5, c6, rfl, hl7, hm8⟩ := hH.row_form 0 rfl
  replace hH := hH.row_eq 0 (l' := p.length + 8) (xs' := bv (List.replicate (p.length + 8) 0)) rfl (rfl) (bv_zeros _)
  refine gl_ops 1 [(0, .slice Ap p.length cp), (4, Ni p.length), (5, .slice A5 (p.length + 8) c6)] (by kernel_rfl) ?_
  refine gl_dn rfl ?_
  refine sw_sr ?_
  have hW9 := hH.win_self 0 rfl
  refine gl_ops 2 [(0, .slice Ap p.length cp), (4, Ni p.length), (5, .slice A5 (p.length + 8) c6), (14, .slice A5 (p.length + 8) c6), (15, Ni p.length)] (by kernel_rfl) ?_
  replace hH : Hp w w2 _ _ ([.row (.slice A5 (p.length + 8) c6) 5 1 (p.length + 8) (bv (List.replicate (p.length + 8) 0))] ++ []) := hH
  refine gl_st (st_call rfl rfl rfl (by kernel_rfl) rfl (Put4_ct (.slice A5 (p.length + 8) c6) _ (p.length + 8) (List.replicate (p.length + 8) 0) 0 (p.length + 8) p.length _ hH.mine hW9 (by omega) (by simp [patch, four_length] <;> omega) (by omega) (by omega)) ?_)
  rintro _ w10 ⟨rfl, hF11⟩
  replace hH := hH.turns hF11; clear hF11
  replace hH : Hp w w10 _ _ [.row (.slice A5 (p.length + 8) c6) 5 1 (p.length + 8) (bv (patch (List.replicate (p.length + 8) 0) 0 (four p.length)))] := hH
  replace hH := hH.row_eq 0 (l' := p.length + 8) (xs' := bv (four p.length ++ List.replicate (p.length + 4) 0)) rfl (rfl) (by rw [frame_put])
  refine gl_dn rfl ?_
  refine sw_sr ?_
  obtain ⟨A12, hk13, hv14⟩ := hH.row_win 0 rfl 4 (p.length + 8) c6 (by omega) (by omega) (by omega) (by omega)
  refine gl_ops 1 [(0, .slice Ap p.length cp), (4, Ni p.length), (5, .slice A5 (p.length + 8) c6), (17, .slice A5 (p.length + 8) c6)] (by kernel_rfl) ?_
  refine gl_q rfl rfl rfl (rd_cut (e := 5) (m := 1) (by kernel_rfl) (by kernel_rfl) rfl (.inr ⟨_, _, rfl, rfl⟩) (.inl ⟨rfl, rfl⟩) hk13) ?_
  refine gl_ops 1 [(4, Ni p.length), (5, .slice A5 (p.length + 8) c6), (18, .slice A12 ((p.length + 8) - 4) (c6 - 4)), (19, .slice Ap p.length cp)] (by kernel_rfl) ?_
  refine gl_st (st_copyH (e := 5) 0 rfl rfl rfl (by kernel_rfl) (by kernel_rfl) hH rfl rfl hv14 (by omega) rfl (hp.row.mono hH.zin) (bv_one _) ?_)
  clear hH; intro w15 hH
  replace hH := hH.row_eq 0 (l' := p.length + 8) (xs' := bv (four p.length ++ p ++ List.replicate 4 0)) rfl (rfl) (frame_copy p)
  refine gl_dn rfl ?_
  refine sw_seq ?_
  refine sw_draw (by kernel_rfl) (fun w_ => Hp w w_ (w.cell?) [] []) ?_
  replace hH := hH.drew
  generalize { w15 with drawn := w15.drawn + 1 } = w16 at hH ⊢
  have hS9 := hH.sublist (List.nil_sublist _)
  refine gd_pure 0 rfl (by kernel_rfl) (PQ.th PQ.body) hS9 rfl rfl (.slice A5 (p.length + 8) c6) (by kernel_rfl) ?_
  refine gd_pure 1 rfl (by kernel_rfl) (PQ.th PQ.body) hS9 rfl rfl (Ni p.length) (by kernel_rfl) ?_
  refine gd_pure 2 rfl (by kernel_rfl) (PQ.th PQ.body) hS9 rfl rfl (.int .i64 (IntKind.i64.wrap (((p.length : Nat) : Int) + 4))) (by kernel_rfl) ?_
  refine gd_cv 23 (Ni (p.length + 4)) (cv_i64 (by omega)) rfl ?_
  refine gd_keep [(4, Ni p.length), (5, .slice A5 (p.length + 8) c6), (21, .slice A5 (p.length + 8) c6), (23, Ni (p.length + 4))] (by kernel_rfl) ?_
  obtain ⟨A17, hk18, hv19⟩ := hH.row_win 0 rfl (p.length + 4) (p.length + 8) c6 (by omega) (by omega) (by omega) (by omega)
  refine gd_q 3 rfl (by kernel_rfl) (PQ.th PQ.body) hS9 rfl rfl (fun w_ hS => (rd_cut (e := 5) (m := 1) (by kernel_rfl) (by kernel_rfl) rfl (.inr ⟨_, _, rfl, rfl⟩) (.inl ⟨rfl, rfl⟩) hk18)) ?_
  refine gd_pure 4 rfl (by kernel_rfl) (PQ.th PQ.body) hS9 rfl rfl (.slice A5 (p.length + 8) c6) (by kernel_rfl) ?_
  refine gd_pure 5 rfl (by kernel_rfl) (PQ.th PQ.body) hS9 rfl rfl (Ni p.length) (by kernel_rfl) ?_
  refine gd_keep [(5, .slice A5 (p.length + 8) c6), (24, .slice A17 ((p.length + 8) - (p.length + 4)) (c6 - (p.length + 4))), (25, .slice A5 (p.length + 8) c6), (26, Ni p.length)] (by kernel_rfl) ?_
  refine gd_pure 6 rfl (by kernel_rfl) (PQ.th PQ.body) hS9 rfl rfl (.int .i64 (IntKind.i64.wrap (((p.length : Nat) : Int) + 4))) (by kernel_rfl) ?_
  refine gd_cv 27 (Ni (p.length + 4)) (cv_i64 (by omega)) rfl ?_
  obtain ⟨A20, hk21, hv22⟩ := hH.row_win 0 rfl 0 (p.length + 4) c6 (by omega) (by omega) (by omega) (by omega)
  refine gd_q 7 rfl (by kernel_rfl) (PQ.th PQ.body) hS9 rfl rfl (fun w_ hS => (rd_cut (e := 5) (m := 1) (by kernel_rfl) (by kernel_rfl) rfl (.inl ⟨rfl, rfl⟩) (.inr ⟨_, _, rfl, rfl⟩) hk21)) ?_
  refine gd_st 8 (by kernel_rfl) (st_call rfl rfl rfl (by kernel_rfl) rfl (by have h1 := Sum_ct _ _ _ (RB.of_win (Win.reads hH 0 rfl hv22 (by omega) (by omega) (by omega)) (by first | omega | (simp <;> omega))); rw [frame_sum] at h1; exact h1) ?_)
  rintro _ w23 ⟨rfl, hF24⟩
  replace hH := hH.call hF24; clear hF24
  replace hS9 := hH.sublist (List.nil_sublist _)
  refine ⟨hS9, ?_⟩
  refine gd_keep [(5, .slice A5 (p.length + 8) c6), (24, .slice A17 ((p.length + 8) - (p.length + 4)) (c6 - (p.length + 4))), (29, Ni (crc (four p.length ++ p)))] (by kernel_rfl) ?_
  replace hH : Hp w w23 _ _ ([.row (.slice A5 (p.length + 8) c6) 5 1 (p.length + 8) (bv (four p.length ++ p ++ List.replicate 4 0))] ++ []) := hH
  refine gd_st 9 (by kernel_rfl) (st_call rfl rfl rfl (by kernel_rfl) rfl (Put4_ct (.slice A5 (p.length + 8) c6) _ (p.length + 8) (four p.length ++ p ++ List.replicate 4 0) (p.length + 4) ((p.length + 8) - (p.length + 4)) (crc (four p.length ++ p)) _ hH.mine hv19 (by omega) (by simp [patch, four_length] <;> omega) (by omega) (by omega)) ?_)
  rintro _ w25 ⟨rfl, hF26⟩
  replace hH := hH.turns hF26; clear hF26
  replace hH : Hp w w25 _ _ [.row (.slice A5 (p.length + 8) c6) 5 1 (p.length + 8) (bv (patch (four p.length ++ p ++ List.replicate 4 0) (p.length + 4) (four (crc (four p.length ++ p)))))] := hH
  replace hS9 := hH.sublist (List.nil_sublist _)
  refine ⟨hS9, ?_⟩
  refine gd_keep [(5, .slice A5 (p.length + 8) c6)] (by kernel_rfl) ?_
  refine gd_done (by kernel_rfl) ?_
  refine at_sub [(5, .slice A5 (p.length + 8) c6)] (Sub.of_eq (by kernel_rfl)) ?_
  refine sw_next ?_
  refine sw_sr ?_
  refine gl_ops 3 [(2, .slice A5 (p.length + 8) c6), (3, .nilIface)] (by kernel_rfl) ?_
  refine gl_dn rfl ?_
  refine sw_ret ?_
  refine ret2 rfl rfl rfl  ?_
  exact ⟨_, by rw [if_neg (by omega)]; rfl, (hH.row_eq 0 (l' := (frameO p).length) (xs' := bv (frameO p)) rfl (by simp only [frameO, if_neg (show ¬ 1048576 < p.length by omega), frameB_length]) (by rw [frame_end]; simp only [frameO, if_neg (show ¬ 1048576 < p.length by omega), frameB])).fresh⟩
theorem Open_ct (vb : Value) (b : List UInt8) (w : World) (hb : RB w.cell? vb b) :
    Fun Tryz.prog 60 [vb] w fun v w' => ∃ v1, v = .tuple #[v1, .int .i64 ((openF b).2.1 : Nat), errV (openF b).2.2] ∧ Fresh w w' [.row v1 5 1 (openF b).1.length (bv (openF b).1)] := by
  have hbl : b.length ≤ 9223372036854775807 := RB.le hb
  have hg4 := get4_lt b
  have hcl := crc_lt (b.take (get4 b + 4))
  have hg5 := get4_lt (b.drop (get4 b + 4))
  obtain ⟨Ab, cb, rfl, hb1, hb2⟩ := hb.row.form
  refine fun_of_sw Tryz.func60 rfl 43 rfl rfl ?_
  have hH := Hp.start w
  refine sw_sr ?_
  refine gl_ops 3 [(0, .slice Ab b.length cb)] (by kernel_rfl) ?_
  refine gl_dn rfl ?_
  refine sw_seq ?_
  refine sw_sr ?_
  refine gl_ops 1 [(0, .slice Ab b.length cb), (6, .slice Ab b.length cb)] (by kernel_rfl) ?_
  refine gl_q rfl rfl rfl (rd_len (e := 5) (by kernel_rfl) rfl) ?_
  refine gl_ops 1 [(0, .slice Ab b.length cb), (8, .bool (decide (((b.length : Nat) : Int) < (4 : Int))))] (by kernel_rfl) ?_
  refine gl_dn rfl ?_
  refine sw_cond rfl rfl (fun hc1 => ?_) (fun hc1 => ?_)
  ·
    try simp only [decide_eq_true_eq] at hc1
    refine sw_sr ?_
    refine gl_ops 4 [(2, .slice none 0 0), (3, .int .i64 0), (4, .iface 37 (.int .i64 3))] (by kernel_rfl) ?_
    refine gl_dn rfl ?_
    refine sw_ret ?_
    refine thR ?_
    refine ret3 rfl rfl rfl rfl  ?_
    exact ⟨_, by unfold openF; rw [if_pos (by omega)]; rfl, (hH.nilRow 5 1).cast (by unfold openF; rw [if_pos (by omega)]; rfl) |>.fresh⟩
  try simp only [decide_eq_false_iff_not, Int.not_lt, Int.not_le] at hc1
  refine sw_skip ?_
  refine sw_next ?_
  refine sw_sr ?_
  refine gl_ops 1 [(0, .slice Ab b.length cb), (10, .slice Ab b.length cb)] (by kernel_rfl) ?_
  refine gl_st (st_call rfl rfl rfl (by kernel_rfl) rfl (Get4_ct _ _ _ (hb.mono hH.zin) (by first | omega | (simp <;> omega))) ?_)
  rintro _ w1 ⟨rfl, hF2⟩
  replace hH := hH.call hF2; clear hF2
  refine gl_ops 1 [(0, .slice Ab b.length cb), (5, Ni (get4 b))] (by kernel_rfl) ?_
  refine gl_dn rfl ?_
  refine sw_seq ?_
  refine sw_block ?_
  refine sw_sr ?_
  refine gl_ops 3 [(0, .slice Ab b.length cb), (5, Ni (get4 b)), (12, .bool (decide (((get4 b : Nat) : Int) > (1048576 : Int))))] (by kernel_rfl) ?_
  refine gl_dn rfl ?_
  refine sw_cond rfl rfl (fun hc2 => ?_) (fun hc2 => ?_)
  ·
    try simp only [decide_eq_true_eq] at hc2
    refine sw_sr ?_
    refine gl_ops 4 [(2, .slice none 0 0), (3, .int .i64 0), (4, .iface 37 (.int .i64 2))] (by kernel_rfl) ?_
    refine gl_dn rfl ?_
    refine sw_ret ?_
    refine bkR ?_
    refine thR ?_
    refine ret3 rfl rfl rfl rfl  ?_
    exact ⟨_, by unfold openF; rw [if_neg (by omega), if_pos (by omega)]; rfl, (hH.nilRow 5 1).cast (by unfold openF; rw [if_neg (by omega), if_pos (by omega)]; rfl) |>.fresh⟩
  try simp only [decide_eq_false_iff_not, Int.not_lt, Int.not_le] at hc2
  refine sw_sr ?_
  refine gl_ops 1 [(0, .slice Ab b.length cb), (5, Ni (get4 b)), (17, .slice Ab b.length cb)] (by kernel_rfl) ?_
  refine gl_q rfl rfl rfl (rd_len (e := 5) (by kernel_rfl) rfl) ?_
  refine gl_ops 1 [(0, .slice Ab b.length cb), (5, Ni (get4 b)), (19, .int .i64 (IntKind.i64.wrap (((b.length : Nat) : Int) - 8)))] (by kernel_rfl) ?_
  refine gl_cv 19 (.int .i64 ((b.length : Int) - 8)) (cv_i64 (by omega)) rfl ?_
  refine gl_ops 3 [(0, .slice Ab b.length cb), (5, Ni (get4 b)), (16, .bool (decide (((b.length : Int) - 8) < ((get4 b : Nat) : Int))))] (by kernel_rfl) ?_
  refine gl_dn rfl ?_
  refine sw_cond rfl rfl (fun hc3 => ?_) (fun hc3 => ?_)
  ·
    try simp only [decide_eq_true_eq] at hc3
    refine sw_sr ?_
    refine gl_ops 4 [(2, .slice none 0 0), (3, .int .i64 0), (4, .iface 37 (.int .i64 3))] (by kernel_rfl) ?_
    refine gl_dn rfl ?_
    refine sw_ret ?_
    refine bkR ?_
    refine thR ?_
    refine ret3 rfl rfl rfl rfl  ?_
    exact ⟨_, by unfold openF; rw [if_neg (by omega), if_neg (by omega), if_pos (by omega)]; rfl, (hH.nilRow 5 1).cast (by unfold openF; rw [if_neg (by omega), if_neg (by omega), if_pos (by omega)]; rfl) |>.fresh⟩
  try simp only [decide_eq_false_iff_not, Int.not_lt, Int.not_le] at hc3
  refine sw_seq ?_
  refine sw_draw (by kernel_rfl) (fun w_ => Hp w w_ (w.cell?) [] []) ?_
  replace hH := hH.drew
  generalize { w1 with drawn := w1.drawn + 1 } = w3 at hH ⊢
  have hS9 := hH.sublist (List.nil_sublist _)
  refine gd_pure 0 rfl (by kernel_rfl) (PQ.th (PQ.bk (PQ.th PQ.body))) hS9 rfl rfl (.slice Ab b.length cb) (by kernel_rfl) ?_
  refine gd_pure 1 rfl (by kernel_rfl) (PQ.th (PQ.bk (PQ.th PQ.body))) hS9 rfl rfl (Ni (get4 b)) (by kernel_rfl) ?_
  refine gd_pure 2 rfl (by kernel_rfl) (PQ.th (PQ.bk (PQ.th PQ.body))) hS9 rfl rfl (.int .i64 (IntKind.i64.wrap (((get4 b : Nat) : Int) + 4))) (by kernel_rfl) ?_
  refine gd_cv 26 (Ni ((get4 b) + 4)) (cv_i64 (by omega)) rfl ?_
  refine gd_keep [(0, .slice Ab b.length cb), (5, Ni (get4 b)), (24, .slice Ab b.length cb), (26, Ni ((get4 b) + 4))] (by kernel_rfl) ?_
  obtain ⟨A4, hk5, hv6⟩ := hb.row.cut (by decide) 0 ((get4 b) + 4) (by omega) (by omega)
  refine gd_q 3 rfl (by kernel_rfl) (PQ.th (PQ.bk (PQ.th PQ.body))) hS9 rfl rfl (fun w_ hS => (rd_cut (e := 5) (m := 1) (by kernel_rfl) (by kernel_rfl) rfl (.inl ⟨rfl, rfl⟩) (.inr ⟨_, _, rfl, rfl⟩) hk5)) ?_
  have hr7 := RB.head hv6 (by omega)
  refine gd_pure 5 rfl (by kernel_rfl) (PQ.th (PQ.bk (PQ.th PQ.body))) hS9 rfl rfl (.slice Ab b.length cb) (by kernel_rfl) ?_
  refine gd_pure 6 rfl (by kernel_rfl) (PQ.th (PQ.bk (PQ.th PQ.body))) hS9 rfl rfl (Ni (get4 b)) (by kernel_rfl) ?_
  refine gd_keep [(0, .slice Ab b.length cb), (5, Ni (get4 b)), (27, .slice A4 (((get4 b) + 4) - 0) (cb - 0)), (29, .slice Ab b.length cb), (30, Ni (get4 b))] (by kernel_rfl) ?_
  refine gd_pure 7 rfl (by kernel_rfl) (PQ.th (PQ.bk (PQ.th PQ.body))) hS9 rfl rfl (.int .i64 (IntKind.i64.wrap (((get4 b : Nat) : Int) + 4))) (by kernel_rfl) ?_
  refine gd_cv 31 (Ni ((get4 b) + 4)) (cv_i64 (by omega)) rfl ?_
  obtain ⟨A8, hk9, hv10⟩ := hb.row.cut (by decide) ((get4 b) + 4) b.length (by omega) (by omega)
  refine gd_q 8 rfl (by kernel_rfl) (PQ.th (PQ.bk (PQ.th PQ.body))) hS9 rfl rfl (fun w_ hS => (rd_cut (e := 5) (m := 1) (by kernel_rfl) (by kernel_rfl) rfl (.inr ⟨_, _, rfl, rfl⟩) (.inl ⟨rfl, rfl⟩) hk9)) ?_
  have hr11 := RB.tail hv10
  refine gd_st 4 (by kernel_rfl) (st_call rfl rfl rfl (by kernel_rfl) rfl (Sum_ct _ _ _ (hr7.mono hH.zin)) ?_)
  rintro _ w12 ⟨rfl, hF13⟩
  replace hH := hH.call hF13; clear hF13
  replace hS9 := hH.sublist (List.nil_sublist _)
  refine ⟨hS9, ?_⟩
  refine gd_keep [(0, .slice Ab b.length cb), (5, Ni (get4 b)), (28, Ni (crc (b.take ((get4 b) + 4)))), (32, .slice A8 (b.length - ((get4 b) + 4)) (cb - ((get4 b) + 4)))] (by kernel_rfl) ?_
  refine gd_st 9 (by kernel_rfl) (st_call rfl rfl rfl (by kernel_rfl) rfl (Get4_ct _ _ _ (hr11.mono hH.zin) (by first | omega | (simp <;> omega))) ?_)
  rintro _ w14 ⟨rfl, hF15⟩
  replace hH := hH.call hF15; clear hF15
  replace hS9 := hH.sublist (List.nil_sublist _)
  refine ⟨hS9, ?_⟩
  refine gd_keep [(0, .slice Ab b.length cb), (5, Ni (get4 b)), (28, Ni (crc (b.take ((get4 b) + 4)))), (33, Ni (get4 (b.drop ((get4 b) + 4))))] (by kernel_rfl) ?_
  refine gd_pure 10 rfl (by kernel_rfl) (PQ.th (PQ.bk (PQ.th PQ.body))) hS9 rfl rfl (.bool (((crc (b.take ((get4 b) + 4)) : Nat) : Int) != ((get4 (b.drop ((get4 b) + 4)) : Nat) : Int))) (by kernel_rfl) ?_
  refine gd_pure 11 rfl (by kernel_rfl) (PQ.th (PQ.bk (PQ.th PQ.body))) hS9 rfl rfl (.bool (((crc (b.take ((get4 b) + 4)) : Nat) : Int) != ((get4 (b.drop ((get4 b) + 4)) : Nat) : Int))) (by kernel_rfl) ?_
  refine gd_done (by kernel_rfl) ?_
  refine at_sub [(0, .slice Ab b.length cb), (5, Ni (get4 b)), (23, .bool (((crc (b.take ((get4 b) + 4)) : Nat) : Int) != ((get4 (b.drop ((get4 b) + 4)) : Nat) : Int)))] (Sub.of_eq (by kernel_rfl)) ?_
  refine sw_next ?_
  refine sw_cond rfl rfl (fun hc4 => ?_) (fun hc4 => ?_)
  ·
    try simp only [bne_iff_ne, ne_eq] at hc4
    refine sw_sr ?_
    refine gl_ops 4 [(2, .slice none 0 0), (3, .int .i64 0), (4, .iface 37 (.int .i64 5))] (by kernel_rfl) ?_
    refine gl_dn rfl ?_
    refine sw_ret ?_
    refine bkR ?_
    refine thR ?_
    refine ret3 rfl rfl rfl rfl  ?_
    exact ⟨_, by unfold openF; rw [if_neg (by omega), if_neg (by omega), if_neg (by omega), if_pos (by omega)]; rfl, (hH.nilRow 5 1).cast (by unfold openF; rw [if_neg (by omega), if_neg (by omega), if_neg (by omega), if_pos (by omega)]; rfl) |>.fresh⟩
  try simp only [bne_eq_false_iff_eq] at hc4
  refine sw_skip ?_
  refine bkN ?_
  refine sw_next ?_
  refine sw_sr ?_
  refine gl_ops 3 [(5, Ni (get4 b)), (36, .slice Ab b.length cb), (38, .int .i64 (IntKind.i64.wrap (((get4 b : Nat) : Int) + 4)))] (by kernel_rfl) ?_
  refine gl_cv 38 (Ni ((get4 b) + 4)) (cv_i64 (by omega)) rfl ?_
  obtain ⟨A16, hk17, hv18⟩ := hb.row.cut (by decide) 4 ((get4 b) + 4) (by omega) (by omega)
  refine gl_q rfl rfl rfl (rd_cut (e := 5) (m := 1) (by kernel_rfl) (by kernel_rfl) rfl (.inr ⟨_, _, rfl, rfl⟩) (.inr ⟨_, _, rfl, rfl⟩) hk17) ?_
  have hr19 := RB.cut hv18 (by omega)
  have hcl4 : ((b.drop 4).take (get4 b + 4 - 4)).length = get4 b := by simp; omega
  replace hH := hH.nilRow 5 1
  refine gl_st (st_appH (e := 5) (zv := .int .u8 0) (m := 1) (bytes := 1) 0 rfl rfl rfl (by kernel_rfl) (by kernel_rfl) rfl (by decide) hH rfl rfl rfl (hr19.row.mono hH.zin) (bv_one _) (by unfold maxLen; omega) (by omega) ?_)
  clear hH; intro v20 w21 hH
  replace hH := hH.row_eq 0 (l' := ((b.drop 4).take (((get4 b) + 4) - 4)).length) (xs' := bv ((b.drop 4).take (((get4 b) + 4) - 4))) rfl (Nat.zero_add _) (List.nil_append _)
  obtain ⟨A22, c23, rfl, hl24, hm25⟩ := hH.row_form 0 rfl
  refine gl_ops 2 [(40, .slice A22 (((b.drop 4).take (((get4 b) + 4) - 4)).length) c23), (42, .int .i64 (IntKind.i64.wrap (((get4 b : Nat) : Int) + 8)))] (by kernel_rfl) ?_
  refine gl_cv 42 (Ni ((get4 b) + 8)) (cv_i64 (by omega)) rfl ?_
  refine gl_ops 3 [(2, .slice A22 (((b.drop 4).take (((get4 b) + 4) - 4)).length) c23), (3, Ni ((get4 b) + 8)), (4, .nilIface)] (by kernel_rfl) ?_
  refine gl_dn rfl ?_
  refine sw_ret ?_
  refine ret3 rfl rfl rfl rfl  ?_
  exact ⟨_, by unfold openF; rw [if_neg (by omega), if_neg (by omega), if_neg (by omega), if_neg (by omega)]; rfl, (hH.cast (by unfold openF; rw [if_neg (by omega), if_neg (by omega), if_neg (by omega), if_neg (by omega)]; rw [Nat.add_sub_cancel]; rfl)).fresh⟩
end Go.Proofs.YtjcchjgkkplamaaGreatDoor
