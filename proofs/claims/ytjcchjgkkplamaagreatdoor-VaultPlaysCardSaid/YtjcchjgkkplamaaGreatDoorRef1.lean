/- Layer 1, the document's own answer (muntinref01): what its functions answer: the same as the program's. -/
import Derived.Test.YtjcchjgkkplamaaGreatDoorWire
import Derived.Test.YtjcchjgkkplamaaGreatDoorRef1P
set_option maxRecDepth 100000
set_option maxHeartbeats 2000000
set_option linter.unusedVariables false
set_option linter.unusedSimpArgs false
namespace Go.Proofs.YtjcchjgkkplamaaGreatDoor
open Go.RowKit Go.SW
theorem cv_xor_c {a : Nat} (h : a < 4294967296) : Value.int .u32 (IntKind.u32.wrap (((BitVec.ofInt 32 ((a : Nat) : Int) ^^^ BitVec.ofInt 32 2197175160).toNat : Nat) : Int)) = .int .u32 ((a ^^^ 2197175160 : Nat) : Int) := by
  have := cv_xor_u32 (a := a) (b := 2197175160) h (by omega)
  exact this

theorem RDigits_ct (n : Nat) : ∀ (w : World), n < 9223372036854775808 →
    Fun Tryz.prog 91 [.int .i64 n] w fun v w' => ∃ v1, v = v1 ∧ Fresh w w' [.row v1 5 1 (digB n).length (bv (digB n))] := by
  refine Nat.strongRecOn n (fun n ih w hn => ?_)
  have hd8 := digB_le (n / 256) (by omega)
  refine fun_of_sw Tryz.func91 rfl 13 rfl rfl ?_
  have hH := Hp.start w
  refine sw_sr ?_
  refine gl_ops 1 [(0, Ni n)] (by kernel_rfl) ?_
  refine gl_dn rfl ?_
  refine sw_seq ?_
  refine sw_sr ?_
  refine gl_ops 2 [(0, Ni n), (4, .bool (((n : Nat) : Int) == (0 : Int)))] (by kernel_rfl) ?_
  refine gl_dn rfl ?_
  refine sw_cond rfl rfl (fun hc1 => ?_) (fun hc1 => ?_)
  ·
    try simp only [beq_iff_eq] at hc1
    have h0 : n = 0 := by omega
    subst h0
    refine sw_sr ?_
    refine gl_ops 1 [(2, .slice none 0 0)] (by kernel_rfl) ?_
    refine gl_dn rfl ?_
    refine sw_ret ?_
    refine thR ?_
    refine ret1 rfl rfl  ?_
    exact ⟨_, rfl, (((hH.sublist (List.nil_sublist _)).nilRow 5 1).cast (by rfl)).fresh⟩
  try simp only [beq_eq_false_iff_ne, ne_eq] at hc1
  have h0 : n ≠ 0 := by omega
  refine sw_skip ?_
  refine sw_next ?_
  refine sw_sr ?_
  refine gl_ops 2 [(0, Ni n), (6, .int .i64 (IntKind.i64.wrap (Int.tdiv ((n : Nat) : Int) 256)))] (by kernel_rfl) ?_
  refine gl_cv 6 (Ni (n / 256)) (cvq_i64 (by omega)) rfl ?_
  refine gl_st (st_call rfl rfl rfl (by kernel_rfl) rfl (ih (n / 256) (by omega) _ (by omega)) ?_)
  rintro _ w3 ⟨v1, rfl, hF4⟩
  replace hH := hH.call hF4; clear hF4
  obtain ⟨A5, c6, rfl, hl7, hm8⟩ := hH.row_form 0 rfl
  refine gl_ops 2 [(7, .slice A5 ((digB (n / 256)).length) c6), (9, .int .i64 (Int.tmod ((n : Nat) : Int) 256))] (by kernel_rfl) ?_
  refine gl_cv 9 (Ni (n % 256)) (cvr (by omega)) rfl ?_
  refine gl_ops 1 [(7, .slice A5 ((digB (n / 256)).length) c6), (10, .int .u8 (IntKind.u8.wrap ((n % 256 : Nat) : Int)))] (by kernel_rfl) ?_
  refine gl_cv 10 (.int .u8 (((UInt8.ofNat (n % 256)).toNat : Nat) : Int)) (cv_byte _) rfl ?_
  refine gl_st (st_buildS (e := 5) (zv := .int .u8 0) (m := 1) (bytes := 1) rfl rfl rfl (by kernel_rfl) (by kernel_rfl) rfl (cs := [.int .u8 (((UInt8.ofNat (n % 256)).toNat : Nat) : Int)]) (by kernel_rfl) rfl hH ?_)
  clear hH; intro b9 w10 hH
  replace hH := hH.row_eq 1 (l' := 1) (xs' := bv [UInt8.ofNat (n % 256)]) rfl (rfl) (rfl)
  refine gl_st (st_appH (e := 5) (zv := .int .u8 0) (m := 1) (bytes := 1) 0 rfl rfl rfl (by kernel_rfl) (by kernel_rfl) rfl (by decide) hH rfl rfl rfl (hH.row_reads 1 rfl) (bv_one _) (by unfold maxLen; omega) (by omega) ?_)
  clear hH; intro v11 w12 hH
  replace hH := hH.row_eq 0 (l' := ((digB (n / 256)) ++ [UInt8.ofNat (n % 256)]).length) (xs' := bv ((digB (n / 256)) ++ [UInt8.ofNat (n % 256)])) rfl (by simp only [List.length_append, List.length_cons, List.length_nil] <;> omega) ((bv_append _ _).symm)
  obtain ⟨A13, c14, rfl, hl15, hm16⟩ := hH.row_form 0 rfl
  refine gl_ops 1 [(2, .slice A13 (((digB (n / 256)) ++ [UInt8.ofNat (n % 256)]).length) c14)] (by kernel_rfl) ?_
  refine gl_dn rfl ?_
  refine sw_ret ?_
  refine ret1 rfl rfl  ?_
  exact ⟨_, rfl, ((hH.sublist (.cons_cons _ (List.nil_sublist _))).cast (by rw [digB_step n h0 hn])).fresh⟩
theorem RNum_ct (i : Int) (h0 : 0 ≤ i) (w : World) (h1 : i ≤ 9223372036854775807) :
    Fun Tryz.prog 71 [.int .i64 i] w fun v w' => ∃ v1, v = .tuple #[v1, .int .i64 0] ∧ Fresh w w' [.row v1 5 1 (numB i.toNat).length (bv (numB i.toNat))] := by
  obtain ⟨N, rfl⟩ := Int.eq_ofNat_of_zero_le h0
  simp only [Int.toNat_natCast]
  have hd8 := digB_le N (by omega)
  refine fun_of_sw Tryz.func71 rfl 15 rfl rfl ?_
  have hH := Hp.start w
  refine sw_sr ?_
  refine gl_ops 2 [(0, Ni N)] (by kernel_rfl) ?_
  refine gl_dn rfl ?_
  refine sw_seq ?_
  refine sw_sr ?_
  refine gl_ops 2 [(0, Ni N), (6, .bool (decide (((N : Nat) : Int) < (0 : Int))))] (by kernel_rfl) ?_
  refine gl_dn rfl ?_
  refine sw_cond rfl rfl (fun hc1 => ?_) (fun hc1 => ?_)
  · exact absurd hc1 (by simp only [decide_eq_true_eq, beq_iff_eq, bne_iff_ne, ne_eq]; omega)
  clear hc1
  refine sw_skip ?_
  refine sw_next ?_
  refine sw_sr ?_
  refine gl_ops 1 [(7, Ni N)] (by kernel_rfl) ?_
  refine gl_st (st_call rfl rfl rfl (by kernel_rfl) rfl (RDigits_ct N _ (by first | omega | (simp <;> omega))) ?_)
  rintro _ w3 ⟨v1, rfl, hF4⟩
  replace hH := hH.call hF4; clear hF4
  obtain ⟨A5, c6, rfl, hl7, hm8⟩ := hH.row_form 0 rfl
  refine gl_ops 1 [(4, .slice A5 ((digB N).length) c6)] (by kernel_rfl) ?_
  refine gl_dn rfl ?_
  refine sw_sr ?_
  refine gl_ops 1 [(4, .slice A5 ((digB N).length) c6), (9, .slice A5 ((digB N).length) c6)] (by kernel_rfl) ?_
  refine gl_q rfl rfl rfl (rd_len (e := 5) (by kernel_rfl) rfl) ?_
  refine gl_ops 1 [(4, .slice A5 ((digB N).length) c6), (11, .int .u8 (IntKind.u8.wrap (((digB N).length : Nat) : Int)))] (by kernel_rfl) ?_
  refine gl_cv 11 (.int .u8 (((UInt8.ofNat (digB N).length).toNat : Nat) : Int)) (cv_byte _) rfl ?_
  refine gl_st (st_buildS (e := 5) (zv := .int .u8 0) (m := 1) (bytes := 1) rfl rfl rfl (by kernel_rfl) (by kernel_rfl) rfl (cs := [.int .u8 (((UInt8.ofNat (digB N).length).toNat : Nat) : Int)]) (by kernel_rfl) rfl hH ?_)
  clear hH; intro b9 w10 hH
  replace hH := hH.row_eq 1 (l' := 1) (xs' := bv [UInt8.ofNat (digB N).length]) rfl (rfl) (rfl)
  refine gl_ops 1 [(12, .slice (some ⟨b9, 0, none⟩) 1 1), (13, .slice A5 ((digB N).length) c6)] (by kernel_rfl) ?_
  refine gl_st (st_appH (e := 5) (zv := .int .u8 0) (m := 1) (bytes := 1) 1 rfl rfl rfl (by kernel_rfl) (by kernel_rfl) rfl (by decide) hH rfl rfl rfl (hH.row_reads 0 rfl) (bv_one _) (by unfold maxLen; omega) (by omega) ?_)
  clear hH; intro v11 w12 hH
  replace hH := hH.row_eq 1 (l' := ([UInt8.ofNat (digB N).length] ++ (digB N)).length) (xs' := bv ([UInt8.ofNat (digB N).length] ++ (digB N))) rfl (by simp only [List.length_append, List.length_cons, List.length_nil] <;> omega) ((bv_append _ _).symm)
  obtain ⟨A13, c14, rfl, hl15, hm16⟩ := hH.row_form 1 rfl
  refine gl_ops 2 [(2, .slice A13 (([UInt8.ofNat (digB N).length] ++ (digB N)).length) c14), (3, .int .i64 0)] (by kernel_rfl) ?_
  refine gl_dn rfl ?_
  refine sw_ret ?_
  refine ret2 rfl rfl rfl  ?_
  exact ⟨_, rfl, ((hH.sublist (.cons _ (.cons_cons _ (List.nil_sublist _)))).cast (by rw [← numB_dig])).fresh⟩
theorem RBlob_ct (vp : Value) (p : List UInt8) (w : World) (hp : RB w.cell? vp p) :
    Fun Tryz.prog 72 [vp] w fun v w' => ∃ v1, v = .tuple #[v1, .int .i64 ((if 65536 < p.length then 2 else 0 : Nat) : Int)] ∧ Fresh w w' [.row v1 5 1 (blobB p).length (bv (blobB p))] := by
  have hpl : p.length ≤ 9223372036854775807 := RB.le hp
  have hn9 := numB_le p.length
  obtain ⟨Ap, cp, rfl, hp1, hp2⟩ := hp.row.form
  refine fun_of_sw Tryz.func72 rfl 18 rfl rfl ?_
  have hH := Hp.start w
  refine sw_sr ?_
  refine gl_ops 2 [(0, .slice Ap p.length cp)] (by kernel_rfl) ?_
  refine gl_dn rfl ?_
  refine sw_seq ?_
  refine sw_sr ?_
  refine gl_ops 1 [(0, .slice Ap p.length cp), (6, .slice Ap p.length cp)] (by kernel_rfl) ?_
  refine gl_q rfl rfl rfl (rd_len (e := 5) (by kernel_rfl) rfl) ?_
  refine gl_ops 1 [(0, .slice Ap p.length cp), (8, .bool (decide (((p.length : Nat) : Int) > (65536 : Int))))] (by kernel_rfl) ?_
  refine gl_dn rfl ?_
  refine sw_cond rfl rfl (fun hc1 => ?_) (fun hc1 => ?_)
  ·
    try simp only [decide_eq_true_eq] at hc1
    refine sw_sr ?_
    refine gl_ops 2 [(2, .slice none 0 0), (3, .int .i64 2)] (by kernel_rfl) ?_
    refine gl_dn rfl ?_
    refine sw_ret ?_
    refine thR ?_
    refine ret2 rfl rfl rfl  ?_
    exact ⟨_, by rw [if_pos (by omega)]; rfl, (hH.nilRow 5 1).cast (by unfold blobB; rw [if_pos (by omega)]; rfl) |>.fresh⟩
  try simp only [decide_eq_false_iff_not, Int.not_lt, Int.not_le] at hc1
  refine sw_skip ?_
  refine sw_next ?_
  refine sw_sr ?_
  refine gl_ops 1 [(0, .slice Ap p.length cp), (10, .slice Ap p.length cp)] (by kernel_rfl) ?_
  refine gl_q rfl rfl rfl (rd_len (e := 5) (by kernel_rfl) rfl) ?_
  refine gl_st (st_call rfl rfl rfl (by kernel_rfl) rfl (by have h9 := RNum_ct (((p.length : Nat) : Int) : Int) (by omega) w (by omega); rw [Int.toNat_natCast] at h9; exact h9) ?_)
  rintro _ w3 ⟨v1, rfl, hF4⟩
  replace hH := hH.call hF4; clear hF4
  obtain ⟨A5, c6, rfl, hl7, hm8⟩ := hH.row_form 0 rfl
  refine gl_ops 5 [(0, .slice Ap p.length cp), (4, .slice A5 ((numB p.length).length) c6)] (by kernel_rfl) ?_
  refine gl_dn rfl ?_
  refine sw_sr ?_
  refine gl_ops 2 [(15, .slice A5 ((numB p.length).length) c6), (16, .slice Ap p.length cp)] (by kernel_rfl) ?_
  refine gl_st (st_appH (e := 5) (zv := .int .u8 0) (m := 1) (bytes := 1) 0 rfl rfl rfl (by kernel_rfl) (by kernel_rfl) rfl (by decide) hH rfl rfl rfl (hp.row.mono hH.zin) (bv_one _) (by unfold maxLen; omega) (by omega) ?_)
  clear hH; intro v9 w10 hH
  replace hH := hH.row_eq 0 (l' := ((numB p.length) ++ p).length) (xs' := bv ((numB p.length) ++ p)) rfl (by simp only [List.length_append, List.length_cons, List.length_nil] <;> omega) ((bv_append _ _).symm)
  obtain ⟨A11, c12, rfl, hl13, hm14⟩ := hH.row_form 0 rfl
  refine gl_ops 2 [(2, .slice A11 (((numB p.length) ++ p).length) c12), (3, .int .i64 0)] (by kernel_rfl) ?_
  refine gl_dn rfl ?_
  refine sw_ret ?_
  refine ret2 rfl rfl rfl  ?_
  exact ⟨_, by rw [if_neg (by omega)]; rfl, ((hH.sublist (.cons_cons _ (List.nil_sublist _))).cast (by unfold blobB; rw [if_neg (by omega)])).fresh⟩
theorem RTakeNum_ct (vb : Value) (b : List UInt8) (w : World) (hb : RB w.cell? vb b) :
    Fun Tryz.prog 78 [vb] w fun v w' => v = .tuple #[.int .i64 ((takeNum b).1 : Nat), .int .i64 ((takeNum b).2.1 : Nat), .int .i64 ((takeNum b).2.2 : Nat)] ∧ Fresh w w' [] := by
  have g0 := gb_lt b 0
  have g1 := gb_lt b 1
  have hbl : b.length ≤ 9223372036854775807 := RB.le hb
  obtain ⟨Ab, cb, rfl, hb1, hb2⟩ := hb.row.form
  refine fun_of_sw Tryz.func78 rfl 49 rfl rfl ?_
  have hH := Hp.start w
  refine sw_sr ?_
  refine gl_ops 3 [(0, .slice Ab b.length cb)] (by kernel_rfl) ?_
  refine gl_dn rfl ?_
  refine sw_seq ?_
  refine sw_sr ?_
  refine gl_ops 1 [(0, .slice Ab b.length cb), (8, .slice Ab b.length cb)] (by kernel_rfl) ?_
  refine gl_q rfl rfl rfl (rd_len (e := 5) (by kernel_rfl) rfl) ?_
  refine gl_ops 1 [(0, .slice Ab b.length cb), (10, .bool (((b.length : Nat) : Int) == (0 : Int)))] (by kernel_rfl) ?_
  refine gl_dn rfl ?_
  refine sw_cond rfl rfl (fun hc1 => ?_) (fun hc1 => ?_)
  ·
    try simp only [beq_iff_eq] at hc1
    refine sw_sr ?_
    refine gl_ops 3 [(2, .int .i64 0), (3, .int .i64 0), (4, .int .i64 3)] (by kernel_rfl) ?_
    refine gl_dn rfl ?_
    refine sw_ret ?_
    refine thR ?_
    refine ret3 rfl rfl rfl rfl  ?_
    exact ⟨by unfold takeNum; rw [if_pos (by omega)] <;> rfl, (hH.sublist (List.nil_sublist _)).fresh⟩
  try simp only [beq_eq_false_iff_ne, ne_eq] at hc1
  refine sw_skip ?_
  refine sw_next ?_
  refine sw_sr ?_
  obtain ⟨p1, hi3, hp2⟩ := hb.row.idx 0 (by omega) (by decide)
  refine gl_ops 1 [(0, .slice Ab b.length cb), (11, .slice Ab b.length cb)] (by kernel_rfl) ?_
  refine gl_q rfl rfl rfl (rd_idx (e := 5) (m := 1) (by kernel_rfl) (by kernel_rfl) rfl rfl hi3) ?_
  refine gl_q rfl rfl rfl (rd_load (by kernel_rfl) rfl (hH.zin _ _ (hp2 0 _ (by decide) (bv_at b 0 (by omega))))) ?_
  refine gl_ops 1 [(0, .slice Ab b.length cb), (14, .int .i64 (IntKind.i64.wrap ((gb b 0 : Nat) : Int)))] (by kernel_rfl) ?_
  refine gl_cv 14 (Ni (gb b 0)) (cv_i64 (by omega)) rfl ?_
  refine gl_ops 1 [(0, .slice Ab b.length cb), (5, Ni (gb b 0))] (by kernel_rfl) ?_
  refine gl_dn rfl ?_
  refine sw_seq ?_
  refine sw_sr ?_
  refine gl_ops 2 [(0, .slice Ab b.length cb), (5, Ni (gb b 0)), (16, .bool (decide (((gb b 0 : Nat) : Int) > (8 : Int))))] (by kernel_rfl) ?_
  refine gl_dn rfl ?_
  refine sw_cond rfl rfl (fun hc2 => ?_) (fun hc2 => ?_)
  ·
    try simp only [decide_eq_true_eq] at hc2
    refine sw_sr ?_
    refine gl_ops 3 [(2, .int .i64 0), (3, .int .i64 0), (4, .int .i64 4)] (by kernel_rfl) ?_
    refine gl_dn rfl ?_
    refine sw_ret ?_
    refine thR ?_
    refine ret3 rfl rfl rfl rfl  ?_
    exact ⟨by unfold takeNum; rw [if_neg (by omega), if_pos (by omega)] <;> rfl, (hH.sublist (List.nil_sublist _)).fresh⟩
  try simp only [decide_eq_false_iff_not, Int.not_lt, Int.not_le] at hc2
  refine sw_skip ?_
  refine sw_next ?_
  refine sw_seq ?_
  refine sw_sr ?_
  refine gl_ops 1 [(0, .slice Ab b.length cb), (5, Ni (gb b 0)), (17, .slice Ab b.length cb)] (by kernel_rfl) ?_
  refine gl_q rfl rfl rfl (rd_len (e := 5) (by kernel_rfl) rfl) ?_
  refine gl_ops 2 [(0, .slice Ab b.length cb), (5, Ni (gb b 0)), (18, Ni b.length), (20, .int .i64 (IntKind.i64.wrap (1 + ((gb b 0 : Nat) : Int))))] (by kernel_rfl) ?_
  refine gl_cv 20 (Ni (1 + (gb b 0))) (cv_i64 (by omega)) rfl ?_
  refine gl_ops 1 [(0, .slice Ab b.length cb), (5, Ni (gb b 0)), (21, .bool (decide (((b.length : Nat) : Int) < ((1 + (gb b 0) : Nat) : Int))))] (by kernel_rfl) ?_
  refine gl_dn rfl ?_
  refine sw_cond rfl rfl (fun hc3 => ?_) (fun hc3 => ?_)
  ·
    try simp only [decide_eq_true_eq] at hc3
    refine sw_sr ?_
    refine gl_ops 3 [(2, .int .i64 0), (3, .int .i64 0), (4, .int .i64 3)] (by kernel_rfl) ?_
    refine gl_dn rfl ?_
    refine sw_ret ?_
    refine thR ?_
    refine ret3 rfl rfl rfl rfl  ?_
    exact ⟨by unfold takeNum; rw [if_neg (by omega), if_neg (by omega), if_pos (by omega)] <;> rfl, (hH.sublist (List.nil_sublist _)).fresh⟩
  try simp only [decide_eq_false_iff_not, Int.not_lt, Int.not_le] at hc3
  refine sw_skip ?_
  refine sw_next ?_
  refine sw_cut (γ := Unit) (fun _ => [(0, .slice Ab b.length cb), (5, Ni (gb b 0))]) (fun _ w_ => (¬ (0 < gb b 0 ∧ gb b 1 = 0)) ∧ Hp w w_ (w.cell?) [] []) ?_ ?_
  ·
    refine sw_sr ?_
    refine gl_ops 3 [(0, .slice Ab b.length cb), (5, Ni (gb b 0)), (24, .bool (decide (((gb b 0 : Nat) : Int) > (0 : Int))))] (by kernel_rfl) ?_
    refine gl_split 24 (b := decide (((gb b 0 : Nat) : Int) > (0 : Int))) rfl (fun hg4 => ?_) (fun hg4 => ?_)
    ·
      try simp only [decide_eq_true_eq] at hg4
      obtain ⟨p4, hi6, hp5⟩ := hb.row.idx 1 (by omega) (by decide)
      refine gl_ops 1 [(0, .slice Ab b.length cb), (5, Ni (gb b 0)), (24, .bool true), (25, .slice Ab b.length cb)] (by kernel_rfl) ?_
      refine gl_q rfl rfl rfl (rd_idx (e := 5) (m := 1) (by kernel_rfl) (by kernel_rfl) rfl rfl hi6) ?_
      refine gl_q rfl rfl rfl (rd_load (by kernel_rfl) rfl (hH.zin _ _ (hp5 0 _ (by decide) (bv_at b 1 (by omega))))) ?_
      refine gl_ops 2 [(0, .slice Ab b.length cb), (5, Ni (gb b 0)), (29, .bool (((gb b 1 : Nat) : Int) == (0 : Int)))] (by kernel_rfl) ?_
      refine gl_dn rfl ?_
      refine sw_cond rfl rfl (fun hc5 => ?_) (fun hc5 => ?_)
      ·
        try simp only [beq_iff_eq] at hc5
        refine sw_sr ?_
        refine gl_ops 3 [(2, .int .i64 0), (3, .int .i64 0), (4, .int .i64 4)] (by kernel_rfl) ?_
        refine gl_dn rfl ?_
        refine sw_ret ?_
        refine thR ?_
        refine ret3 rfl rfl rfl rfl  ?_
        exact ⟨by unfold takeNum; rw [if_neg (by omega), if_neg (by omega), if_neg (by omega), if_neg (by omega), if_pos (by omega)] <;> rfl, (hH.sublist (List.nil_sublist _)).fresh⟩
      try simp only [beq_eq_false_iff_ne, ne_eq] at hc5
      refine sw_skip ?_
      refine cut_end (()) (Sub.of_eq (by kernel_rfl)) ?_
      exact ⟨by omega, hH⟩
    try simp only [decide_eq_false_iff_not, Int.not_lt, Int.not_le] at hg4
    refine gl_ops 5 [(0, .slice Ab b.length cb), (5, Ni (gb b 0)), (29, .bool false)] (by kernel_rfl) ?_
    refine gl_dn rfl ?_
    refine sw_false rfl rfl ?_
    refine sw_skip ?_
    refine cut_end (()) (Sub.of_eq (by kernel_rfl)) ?_
    exact ⟨by omega, hH⟩
  clear hH
  rintro _ w7 ⟨hz, hH⟩
  refine sw_keep [(0, .slice Ab b.length cb), (5, Ni (gb b 0))] (by kernel_rfl) ?_
  refine sw_sr ?_
  refine gl_ops 1 [(0, .slice Ab b.length cb), (5, Ni (gb b 0)), (6, .int .u64 0)] (by kernel_rfl) ?_
  refine gl_dn rfl ?_
  refine sw_seq ?_
  refine sw_sr ?_
  refine gl_ops 1 [(0, .slice Ab b.length cb), (5, Ni (gb b 0)), (6, .int .u64 0), (7, .int .i64 1)] (by kernel_rfl) ?_
  refine gl_dn rfl ?_
  refine sw_block ?_
  refine sw_loop (γ := Nat) (fun j => [(0, .slice Ab b.length cb), (5, Ni (gb b 0)), (6, .int .u64 ((beVal ((b.drop 1).take j) : Nat) : Int)), (7, Ni (j + 1))]) (fun j w_ => (j ≤ gb b 0) ∧ Hp w w_ (w.cell?) [] []) (fun j => gb b 0 - j) (0) (Sub.of_eq (by kernel_rfl)) ?_ ?_
  · exact ⟨by omega, hH⟩
  clear hH
  rintro j w8 ⟨hj, hH⟩
  have hbv := be_7 b j
  have gj := gb_lt b (j + 1)
  refine sw_keep [(0, .slice Ab b.length cb), (5, Ni (gb b 0)), (6, .int .u64 ((beVal ((b.drop 1).take j) : Nat) : Int)), (7, Ni (j + 1))] (by kernel_rfl) ?_
  refine sw_seq ?_
  refine sw_sr ?_
  refine gl_ops 3 [(0, .slice Ab b.length cb), (5, Ni (gb b 0)), (6, .int .u64 ((beVal ((b.drop 1).take j) : Nat) : Int)), (7, Ni (j + 1)), (32, .bool (decide (((j + 1 : Nat) : Int) ≤ ((gb b 0 : Nat) : Int))))] (by kernel_rfl) ?_
  refine gl_dn rfl ?_
  refine sw_cond rfl rfl (fun hc7 => ?_) (fun hc7 => ?_)
  ·
    try simp only [decide_eq_true_eq] at hc7
    have hbv7 := hbv (by omega)
    refine sw_skip ?_
    refine sw_next ?_
    refine sw_seq ?_
    refine sw_block ?_
    refine sw_region ?_
    refine gl_ops 2 [(0, .slice Ab b.length cb), (5, Ni (gb b 0)), (7, Ni (j + 1)), (36, .int .u64 (IntKind.u64.wrap (((beVal ((b.drop 1).take j) : Nat) : Int) * 256)))] (by kernel_rfl) ?_
    refine gl_cv 36 (.int .u64 (((beVal ((b.drop 1).take j)) * 256 : Nat) : Int)) (cv_u64 (by omega)) rfl ?_
    obtain ⟨p9, hi11, hp10⟩ := hb.row.idx (j + 1) (by omega) (by decide)
    refine gl_ops 2 [(0, .slice Ab b.length cb), (5, Ni (gb b 0)), (7, Ni (j + 1)), (36, .int .u64 (((beVal ((b.drop 1).take j)) * 256 : Nat) : Int)), (37, .slice Ab b.length cb), (38, Ni (j + 1))] (by kernel_rfl) ?_
    refine gl_q rfl rfl rfl (rd_idx (e := 5) (m := 1) (by kernel_rfl) (by kernel_rfl) rfl rfl hi11) ?_
    refine gl_q rfl rfl rfl (rd_load (by kernel_rfl) rfl (hH.zin _ _ (hp10 0 _ (by decide) (bv_at b (j + 1) (by omega))))) ?_
    refine gl_ops 1 [(0, .slice Ab b.length cb), (5, Ni (gb b 0)), (7, Ni (j + 1)), (36, .int .u64 (((beVal ((b.drop 1).take j)) * 256 : Nat) : Int)), (41, .int .u64 (IntKind.u64.wrap ((gb b (j + 1) : Nat) : Int)))] (by kernel_rfl) ?_
    refine gl_cv 41 (.int .u64 ((gb b (j + 1) : Nat) : Int)) (cv_u64 (by omega)) rfl ?_
    refine gl_ops 1 [(0, .slice Ab b.length cb), (5, Ni (gb b 0)), (7, Ni (j + 1)), (42, .int .u64 (IntKind.u64.wrap ((((beVal ((b.drop 1).take j)) * 256 : Nat) : Int) + ((gb b (j + 1) : Nat) : Int))))] (by kernel_rfl) ?_
    refine gl_cv 42 (.int .u64 ((beVal ((b.drop 1).take (j + 1)) : Nat) : Int)) (by rw [take_snoc b j (by omega), beVal_snoc, show (b.getD (j + 1) 0).toNat = gb b (j + 1) from rfl]; exact cv_u64 (by omega)) rfl ?_
    refine gl_ops 1 [(0, .slice Ab b.length cb), (5, Ni (gb b 0)), (6, .int .u64 ((beVal ((b.drop 1).take (j + 1)) : Nat) : Int)), (7, Ni (j + 1))] (by kernel_rfl) ?_
    refine gl_done rfl ?_
    refine bkN ?_
    refine sw_next ?_
    refine sw_region ?_
    refine gl_ops 2 [(0, .slice Ab b.length cb), (5, Ni (gb b 0)), (6, .int .u64 ((beVal ((b.drop 1).take (j + 1)) : Nat) : Int)), (34, .int .i64 (IntKind.i64.wrap (((j + 1 : Nat) : Int) + 1)))] (by kernel_rfl) ?_
    refine gl_cv 34 (Ni ((j + 1) + 1)) (cv_i64 (by omega)) rfl ?_
    refine gl_ops 1 [(0, .slice Ab b.length cb), (5, Ni (gb b 0)), (6, .int .u64 ((beVal ((b.drop 1).take (j + 1)) : Nat) : Int)), (7, Ni ((j + 1) + 1))] (by kernel_rfl) ?_
    refine gl_done rfl ?_
    refine rnd_end (g := (j)) (j + 1) (by kernel_rfl) ?_ ?_
    · exact ⟨by omega, hH⟩
    · show gb b 0 - (j + 1) < gb b 0 - j; omega
  try simp only [decide_eq_false_iff_not, Int.not_lt, Int.not_le] at hc7
  have hjk : j = gb b 0 := by omega
  have hbig := tn_big (b := b) (k := gb b 0) (by omega) (by omega)
  have hb64 : beVal ((b.drop 1).take (gb b 0)) < 18446744073709551616 := be_le _ _ 8 (by omega)
  refine sw_cv 6 (.int .u64 ((beVal ((b.drop 1).take (gb b 0)) : Nat) : Int)) (by rw [hjk]) rfl ?_
  refine sw_exit ?_
  refine thX ?_
  refine thX ?_
  refine bkH ?_
  refine sw_next ?_
  refine sw_seq ?_
  refine sw_sr ?_
  refine gl_ops 2 [(5, Ni (gb b 0)), (6, .int .u64 ((beVal ((b.drop 1).take (gb b 0)) : Nat) : Int)), (44, .bool (decide (((beVal ((b.drop 1).take (gb b 0)) : Nat) : Int) > (9223372036854775807 : Int))))] (by kernel_rfl) ?_
  refine gl_dn rfl ?_
  refine sw_cond rfl rfl (fun hc8 => ?_) (fun hc8 => ?_)
  ·
    try simp only [decide_eq_true_eq] at hc8
    refine sw_sr ?_
    refine gl_ops 3 [(2, .int .i64 0), (3, .int .i64 0), (4, .int .i64 4)] (by kernel_rfl) ?_
    refine gl_dn rfl ?_
    refine sw_ret ?_
    refine thR ?_
    refine ret3 rfl rfl rfl rfl  ?_
    have hq := hbig.1 (by omega)
    exact ⟨by unfold takeNum; rw [if_neg (by omega), if_neg (by omega), if_neg (by omega), if_pos (by omega)] <;> rfl, (hH.sublist (List.nil_sublist _)).fresh⟩
  try simp only [decide_eq_false_iff_not, Int.not_lt, Int.not_le] at hc8
  refine sw_skip ?_
  refine sw_next ?_
  refine sw_sr ?_
  refine gl_ops 2 [(5, Ni (gb b 0)), (46, .int .i64 (IntKind.i64.wrap ((beVal ((b.drop 1).take (gb b 0)) : Nat) : Int)))] (by kernel_rfl) ?_
  refine gl_cv 46 (Ni (beVal ((b.drop 1).take (gb b 0)))) (cv_i64 (by omega)) rfl ?_
  refine gl_ops 2 [(46, Ni (beVal ((b.drop 1).take (gb b 0)))), (48, .int .i64 (IntKind.i64.wrap (1 + ((gb b 0 : Nat) : Int))))] (by kernel_rfl) ?_
  refine gl_cv 48 (Ni (1 + (gb b 0))) (cv_i64 (by omega)) rfl ?_
  refine gl_ops 3 [(2, Ni (beVal ((b.drop 1).take (gb b 0)))), (3, Ni (1 + (gb b 0))), (4, .int .i64 0)] (by kernel_rfl) ?_
  refine gl_dn rfl ?_
  refine sw_ret ?_
  refine ret3 rfl rfl rfl rfl  ?_
  have hq : ¬ (gb b 0 = 8 ∧ 127 < gb b 1) := fun h => by have := hbig.2 h; omega
  exact ⟨by unfold takeNum; rw [if_neg (by omega), if_neg (by omega), if_neg (by omega), if_neg (by omega), if_neg (by omega)] <;> rfl, (hH.sublist (List.nil_sublist _)).fresh⟩
theorem RTakeBlob_ct (vb : Value) (b : List UInt8) (w : World) (hb : RB w.cell? vb b) :
    Fun Tryz.prog 79 [vb] w fun v w' => ∃ v1, v = .tuple #[v1, .int .i64 ((takeBlob b).2.1 : Nat), .int .i64 ((takeBlob b).2.2 : Nat)] ∧ Fresh w w' [.row v1 5 1 (takeBlob b).1.length (bv (takeBlob b).1)] := by
  have hbl : b.length ≤ 9223372036854775807 := RB.le hb
  have hu := takeNum_used b
  obtain ⟨Ab, cb, rfl, hb1, hb2⟩ := hb.row.form
  refine fun_of_sw Tryz.func79 rfl 36 rfl rfl ?_
  have hH := Hp.start w
  refine sw_sr ?_
  refine gl_ops 3 [(0, .slice Ab b.length cb)] (by kernel_rfl) ?_
  refine gl_dn rfl ?_
  refine sw_sr ?_
  refine gl_ops 1 [(0, .slice Ab b.length cb), (9, .slice Ab b.length cb)] (by kernel_rfl) ?_
  refine gl_st (st_call rfl rfl rfl (by kernel_rfl) rfl (RTakeNum_ct _ _ _ (hb.mono hH.zin)) ?_)
  rintro _ w1 ⟨rfl, hF2⟩
  replace hH := hH.call hF2; clear hF2
  refine gl_ops 7 [(0, .slice Ab b.length cb), (5, Ni ((takeNum b).1)), (6, Ni ((takeNum b).2.1)), (7, Ni ((takeNum b).2.2))] (by kernel_rfl) ?_
  refine gl_dn rfl ?_
  refine sw_seq ?_
  refine sw_sr ?_
  refine gl_ops 2 [(0, .slice Ab b.length cb), (5, Ni ((takeNum b).1)), (6, Ni ((takeNum b).2.1)), (7, Ni ((takeNum b).2.2)), (15, .bool ((((takeNum b).2.2 : Nat) : Int) != (0 : Int)))] (by kernel_rfl) ?_
  refine gl_dn rfl ?_
  refine sw_cond rfl rfl (fun hc1 => ?_) (fun hc1 => ?_)
  ·
    try simp only [bne_iff_ne, ne_eq] at hc1
    refine sw_sr ?_
    refine gl_ops 4 [(2, .slice none 0 0), (3, .int .i64 0), (4, Ni ((takeNum b).2.2))] (by kernel_rfl) ?_
    refine gl_dn rfl ?_
    refine sw_ret ?_
    refine thR ?_
    refine ret3 rfl rfl rfl rfl  ?_
    exact ⟨_, by unfold takeBlob; rw [if_pos (by omega)] <;> rfl, ((hH.sublist (List.nil_sublist _)).nilRow 5 1).cast (by unfold takeBlob; rw [if_pos (by omega)] <;> rfl) |>.fresh⟩
  try simp only [bne_eq_false_iff_eq] at hc1
  refine sw_skip ?_
  refine sw_next ?_
  refine sw_seq ?_
  refine sw_sr ?_
  refine gl_ops 2 [(0, .slice Ab b.length cb), (5, Ni ((takeNum b).1)), (6, Ni ((takeNum b).2.1)), (18, .bool (decide ((((takeNum b).1 : Nat) : Int) > (65536 : Int))))] (by kernel_rfl) ?_
  refine gl_dn rfl ?_
  refine sw_cond rfl rfl (fun hc2 => ?_) (fun hc2 => ?_)
  ·
    try simp only [decide_eq_true_eq] at hc2
    refine sw_sr ?_
    refine gl_ops 3 [(2, .slice none 0 0), (3, .int .i64 0), (4, .int .i64 2)] (by kernel_rfl) ?_
    refine gl_dn rfl ?_
    refine sw_ret ?_
    refine thR ?_
    refine ret3 rfl rfl rfl rfl  ?_
    exact ⟨_, by unfold takeBlob; rw [if_neg (by omega), if_pos (by omega)] <;> rfl, ((hH.sublist (List.nil_sublist _)).nilRow 5 1).cast (by unfold takeBlob; rw [if_neg (by omega), if_pos (by omega)] <;> rfl) |>.fresh⟩
  try simp only [decide_eq_false_iff_not, Int.not_lt, Int.not_le] at hc2
  refine sw_skip ?_
  refine sw_next ?_
  refine sw_seq ?_
  refine sw_sr ?_
  refine gl_ops 2 [(0, .slice Ab b.length cb), (5, Ni ((takeNum b).1)), (6, Ni ((takeNum b).2.1)), (19, Ni ((takeNum b).1)), (20, .slice Ab b.length cb)] (by kernel_rfl) ?_
  refine gl_q rfl rfl rfl (rd_len (e := 5) (by kernel_rfl) rfl) ?_
  refine gl_ops 2 [(0, .slice Ab b.length cb), (5, Ni ((takeNum b).1)), (6, Ni ((takeNum b).2.1)), (19, Ni ((takeNum b).1)), (23, .int .i64 (IntKind.i64.wrap (((b.length : Nat) : Int) - (((takeNum b).2.1 : Nat) : Int))))] (by kernel_rfl) ?_
  refine gl_cv 23 (Ni (b.length - (takeNum b).2.1)) (cv_i64 (by omega)) rfl ?_
  refine gl_ops 1 [(0, .slice Ab b.length cb), (5, Ni ((takeNum b).1)), (6, Ni ((takeNum b).2.1)), (24, .bool (decide ((((takeNum b).1 : Nat) : Int) > ((b.length - (takeNum b).2.1 : Nat) : Int))))] (by kernel_rfl) ?_
  refine gl_dn rfl ?_
  refine sw_cond rfl rfl (fun hc3 => ?_) (fun hc3 => ?_)
  ·
    try simp only [decide_eq_true_eq] at hc3
    refine sw_sr ?_
    refine gl_ops 3 [(2, .slice none 0 0), (3, .int .i64 0), (4, .int .i64 3)] (by kernel_rfl) ?_
    refine gl_dn rfl ?_
    refine sw_ret ?_
    refine thR ?_
    refine ret3 rfl rfl rfl rfl  ?_
    exact ⟨_, by unfold takeBlob; rw [if_neg (by omega), if_neg (by omega), if_pos (by omega)] <;> rfl, ((hH.sublist (List.nil_sublist _)).nilRow 5 1).cast (by unfold takeBlob; rw [if_neg (by omega), if_neg (by omega), if_pos (by omega)] <;> rfl) |>.fresh⟩
  try simp only [decide_eq_false_iff_not, Int.not_lt, Int.not_le] at hc3
  refine sw_skip ?_
  refine sw_next ?_
  refine sw_sr ?_
  refine gl_st (st_buildS0 (e := 5) (m := 1) rfl rfl rfl (by kernel_rfl) (by kernel_rfl) hH ?_)
  clear hH; intro b3 w4 hH
  refine gl_ops 5 [(5, Ni ((takeNum b).1)), (6, Ni ((takeNum b).2.1)), (25, .slice (some ⟨b3, 0, none⟩) 0 0), (26, .slice Ab b.length cb), (27, Ni ((takeNum b).2.1)), (30, .int .i64 (IntKind.i64.wrap ((((takeNum b).2.1 : Nat) : Int) + (((takeNum b).1 : Nat) : Int))))] (by kernel_rfl) ?_
  refine gl_cv 30 (Ni ((takeNum b).2.1 + (takeNum b).1)) (cv_i64 (by omega)) rfl ?_
  obtain ⟨A5, hk6, hv7⟩ := hb.row.cut (by decide) ((takeNum b).2.1) ((takeNum b).2.1 + (takeNum b).1) (by omega) (by omega)
  refine gl_q rfl rfl rfl (rd_cut (e := 5) (m := 1) (by kernel_rfl) (by kernel_rfl) rfl (.inr ⟨_, _, rfl, rfl⟩) (.inr ⟨_, _, rfl, rfl⟩) hk6) ?_
  have hr8 := RB.cut hv7 (by omega)
  have hcl : ((b.drop (takeNum b).2.1).take ((takeNum b).2.1 + (takeNum b).1 - (takeNum b).2.1)).length = (takeNum b).1 := by simp; omega
  refine gl_st (st_appH (e := 5) (zv := .int .u8 0) (m := 1) (bytes := 1) 0 rfl rfl rfl (by kernel_rfl) (by kernel_rfl) rfl (by decide) hH rfl rfl rfl (hr8.row.mono hH.zin) (bv_one _) (by unfold maxLen; omega) (by omega) ?_)
  clear hH; intro v9 w10 hH
  replace hH := hH.row_eq 0 (l' := ((b.drop ((takeNum b).2.1)).take (((takeNum b).2.1 + (takeNum b).1) - ((takeNum b).2.1))).length) (xs' := bv ((b.drop ((takeNum b).2.1)).take (((takeNum b).2.1 + (takeNum b).1) - ((takeNum b).2.1)))) rfl (Nat.zero_add _) (List.nil_append _)
  obtain ⟨A11, c12, rfl, hl13, hm14⟩ := hH.row_form 0 rfl
  refine gl_ops 3 [(32, .slice A11 (((b.drop ((takeNum b).2.1)).take (((takeNum b).2.1 + (takeNum b).1) - ((takeNum b).2.1))).length) c12), (35, .int .i64 (IntKind.i64.wrap ((((takeNum b).2.1 : Nat) : Int) + (((takeNum b).1 : Nat) : Int))))] (by kernel_rfl) ?_
  refine gl_cv 35 (Ni ((takeNum b).2.1 + (takeNum b).1)) (cv_i64 (by omega)) rfl ?_
  refine gl_ops 3 [(2, .slice A11 (((b.drop ((takeNum b).2.1)).take (((takeNum b).2.1 + (takeNum b).1) - ((takeNum b).2.1))).length) c12), (3, Ni ((takeNum b).2.1 + (takeNum b).1)), (4, .int .i64 0)] (by kernel_rfl) ?_
  refine gl_dn rfl ?_
  refine sw_ret ?_
  refine ret3 rfl rfl rfl rfl  ?_
  exact ⟨_, by unfold takeBlob; rw [if_neg (by omega), if_neg (by omega), if_neg (by omega)] <;> rfl, ((hH.sublist (.cons_cons _ (List.nil_sublist _))).cast (by unfold takeBlob; rw [if_neg (by omega), if_neg (by omega), if_neg (by omega)]; simp [Nat.add_sub_cancel_left])).fresh⟩
theorem RSum_ct (vb : Value) (b : List UInt8) (w : World) (hb : RB w.cell? vb b) :
    Fun Tryz.prog 93 [vb] w fun v w' => v = .int .i64 (crc b : Nat) ∧ Fresh w w' [] := by
  have hbl : b.length ≤ 9223372036854775807 := RB.le hb
  have hcrc := crc_lt b
  obtain ⟨Ab, cb, rfl, hb1, hb2⟩ := hb.row.form
  refine fun_of_sw Tryz.func93 rfl 35 rfl rfl ?_
  have hH := Hp.start w
  refine sw_sr ?_
  refine gl_ops 1 [(0, .slice Ab b.length cb)] (by kernel_rfl) ?_
  refine gl_dn rfl ?_
  refine sw_sr ?_
  refine gl_ops 1 [(0, .slice Ab b.length cb), (3, .int .u32 4294967295)] (by kernel_rfl) ?_
  refine gl_dn rfl ?_
  refine sw_seq ?_
  refine sw_sr ?_
  refine gl_ops 1 [(0, .slice Ab b.length cb), (3, .int .u32 4294967295), (4, .int .i64 0)] (by kernel_rfl) ?_
  refine gl_dn rfl ?_
  refine sw_block ?_
  refine sw_loop (γ := Nat) (fun j => [(0, .slice Ab b.length cb), (3, .int .u32 ((crc0 (b.take j) : Nat) : Int)), (4, Ni j)]) (fun j w_ => (j ≤ b.length) ∧ Hp w w_ (w.cell?) [] []) (fun j => b.length - j) (0) (Sub.of_eq (by kernel_rfl)) ?_ ?_
  · exact ⟨by omega, hH⟩
  clear hH
  rintro j w1 ⟨hj, hH⟩
  have hs := crc0_lt (b.take j)
  have hgj := gb_lt b j
  obtain ⟨X, hX⟩ : ∃ X, X = crc0 (b.take j) ^^^ gb b j := ⟨_, rfl⟩
  have hXl : X < 4294967296 := by rw [hX]; exact Nat.xor_lt_two_pow (n := 32) hs (by omega)
  refine sw_keep [(0, .slice Ab b.length cb), (3, .int .u32 ((crc0 (b.take j) : Nat) : Int)), (4, Ni j)] (by kernel_rfl) ?_
  refine sw_seq ?_
  refine sw_sr ?_
  refine gl_ops 2 [(0, .slice Ab b.length cb), (3, .int .u32 ((crc0 (b.take j) : Nat) : Int)), (4, Ni j), (7, Ni j), (8, .slice Ab b.length cb)] (by kernel_rfl) ?_
  refine gl_q rfl rfl rfl (rd_len (e := 5) (by kernel_rfl) rfl) ?_
  refine gl_ops 1 [(0, .slice Ab b.length cb), (3, .int .u32 ((crc0 (b.take j) : Nat) : Int)), (4, Ni j), (10, .bool (decide (((j : Nat) : Int) < ((b.length : Nat) : Int))))] (by kernel_rfl) ?_
  refine gl_dn rfl ?_
  refine sw_cond rfl rfl (fun hc1 => ?_) (fun hc1 => ?_)
  ·
    try simp only [decide_eq_true_eq] at hc1
    refine sw_skip ?_
    refine sw_next ?_
    refine sw_seq ?_
    refine sw_block ?_
    refine sw_sr ?_
    obtain ⟨p2, hi4, hp3⟩ := hb.row.idx j (by omega) (by decide)
    refine gl_ops 3 [(0, .slice Ab b.length cb), (4, Ni j), (13, .int .u32 ((crc0 (b.take j) : Nat) : Int)), (14, .slice Ab b.length cb), (15, Ni j)] (by kernel_rfl) ?_
    refine gl_q rfl rfl rfl (rd_idx (e := 5) (m := 1) (by kernel_rfl) (by kernel_rfl) rfl rfl hi4) ?_
    refine gl_q rfl rfl rfl (rd_load (by kernel_rfl) rfl (hH.zin _ _ (hp3 0 _ (by decide) (bv_at b j (by omega))))) ?_
    refine gl_ops 1 [(0, .slice Ab b.length cb), (4, Ni j), (13, .int .u32 ((crc0 (b.take j) : Nat) : Int)), (18, .int .u32 (IntKind.u32.wrap ((gb b j : Nat) : Int)))] (by kernel_rfl) ?_
    refine gl_cv 18 (.int .u32 ((gb b j : Nat) : Int)) (cv_u32 (by omega)) rfl ?_
    refine gl_ops 1 [(0, .slice Ab b.length cb), (4, Ni j), (19, .int .u32 (IntKind.u32.wrap (((BitVec.ofInt 32 ((crc0 (b.take j) : Nat) : Int) ^^^ BitVec.ofInt 32 ((gb b j : Nat) : Int)).toNat : Nat) : Int)))] (by kernel_rfl) ?_
    refine gl_cv 19 (.int .u32 ((X : Nat) : Int)) (by rw [cv_xor_u32 (by omega) (by omega), ← hX]) rfl ?_
    refine gl_ops 1 [(0, .slice Ab b.length cb), (3, .int .u32 ((X : Nat) : Int)), (4, Ni j)] (by kernel_rfl) ?_
    refine gl_dn rfl ?_
    refine sw_sr ?_
    refine gl_ops 1 [(0, .slice Ab b.length cb), (3, .int .u32 ((X : Nat) : Int)), (4, Ni j), (5, .int .i64 0)] (by kernel_rfl) ?_
    refine gl_dn rfl ?_
    refine sw_block ?_
    refine sw_loop (γ := Nat) (fun k => [(0, .slice Ab b.length cb), (3, .int .u32 ((stepN k X : Nat) : Int)), (4, Ni j), (5, Ni k)]) (fun k w_ => (k ≤ 8) ∧ Hp w w_ (w.cell?) [] []) (fun k => 8 - k) (0) (Sub.of_eq (by kernel_rfl)) ?_ ?_
    · exact ⟨by omega, hH⟩
    clear hH
    rintro k w5 ⟨hk, hH⟩
    have hv := stepN_lt k (v := X) hXl
    refine sw_keep [(0, .slice Ab b.length cb), (3, .int .u32 ((stepN k X : Nat) : Int)), (4, Ni j), (5, Ni k)] (by kernel_rfl) ?_
    refine sw_seq ?_
    refine sw_sr ?_
    refine gl_ops 2 [(0, .slice Ab b.length cb), (3, .int .u32 ((stepN k X : Nat) : Int)), (4, Ni j), (5, Ni k), (21, .bool (decide (((k : Nat) : Int) < (8 : Int))))] (by kernel_rfl) ?_
    refine gl_dn rfl ?_
    refine sw_cond rfl rfl (fun hc2 => ?_) (fun hc2 => ?_)
    ·
      try simp only [decide_eq_true_eq] at hc2
      refine sw_skip ?_
      refine sw_next ?_
      refine sw_seq ?_
      refine sw_block ?_
      refine sw_sr ?_
      refine gl_ops 2 [(0, .slice Ab b.length cb), (3, .int .u32 ((stepN k X : Nat) : Int)), (4, Ni j), (5, Ni k), (25, .int .u32 (IntKind.u32.wrap (((BitVec.ofInt 32 ((stepN k X : Nat) : Int) &&& BitVec.ofInt 32 1).toNat : Nat) : Int)))] (by kernel_rfl) ?_
      refine gl_cv 25 (.int .u32 ((stepN k X % 2 : Nat) : Int)) (cv_and1 hv) rfl ?_
      refine gl_ops 1 [(0, .slice Ab b.length cb), (3, .int .u32 ((stepN k X : Nat) : Int)), (4, Ni j), (5, Ni k), (6, .int .u32 ((stepN k X % 2 : Nat) : Int))] (by kernel_rfl) ?_
      refine gl_dn rfl ?_
      refine sw_sr ?_
      refine gl_ops 2 [(0, .slice Ab b.length cb), (4, Ni j), (5, Ni k), (6, .int .u32 ((stepN k X % 2 : Nat) : Int)), (27, .int .u32 (Int.fdiv ((stepN k X : Nat) : Int) (2 ^ 1)))] (by kernel_rfl) ?_
      refine gl_cv 27 (.int .u32 (((stepN k X) / 2 : Nat) : Int)) (cv_shr) rfl ?_
      refine gl_ops 1 [(0, .slice Ab b.length cb), (3, .int .u32 (((stepN k X) / 2 : Nat) : Int)), (4, Ni j), (5, Ni k), (6, .int .u32 ((stepN k X % 2 : Nat) : Int))] (by kernel_rfl) ?_
      refine gl_dn rfl ?_
      refine sw_sr ?_
      refine gl_ops 2 [(0, .slice Ab b.length cb), (3, .int .u32 (((stepN k X) / 2 : Nat) : Int)), (4, Ni j), (5, Ni k), (29, .bool (((stepN k X % 2 : Nat) : Int) == (1 : Int)))] (by kernel_rfl) ?_
      refine gl_dn rfl ?_
      refine sw_cond rfl rfl (fun hc3 => ?_) (fun hc3 => ?_)
      ·
        try simp only [beq_iff_eq] at hc3
        refine sw_region ?_
        refine gl_ops 2 [(0, .slice Ab b.length cb), (4, Ni j), (5, Ni k), (31, .int .u32 (IntKind.u32.wrap (((BitVec.ofInt 32 (((stepN k X) / 2 : Nat) : Int) ^^^ BitVec.ofInt 32 2197175160).toNat : Nat) : Int)))] (by kernel_rfl) ?_
        refine gl_cv 31 (.int .u32 ((stepN (k + 1) X : Nat) : Int)) (by rw [cv_xor_c (by omega), step_odd (by omega)]; rfl) rfl ?_
        refine gl_ops 1 [(0, .slice Ab b.length cb), (3, .int .u32 ((stepN (k + 1) X : Nat) : Int)), (4, Ni j), (5, Ni k)] (by kernel_rfl) ?_
        refine gl_done rfl ?_
        refine bkN ?_
        refine sw_next ?_
        refine sw_region ?_
        refine gl_ops 2 [(0, .slice Ab b.length cb), (3, .int .u32 ((stepN (k + 1) X : Nat) : Int)), (4, Ni j), (23, .int .i64 (IntKind.i64.wrap (((k : Nat) : Int) + 1)))] (by kernel_rfl) ?_
        refine gl_cv 23 (Ni (k + 1)) (cv_i64 (by omega)) rfl ?_
        refine gl_ops 1 [(0, .slice Ab b.length cb), (3, .int .u32 ((stepN (k + 1) X : Nat) : Int)), (4, Ni j), (5, Ni (k + 1))] (by kernel_rfl) ?_
        refine gl_done rfl ?_
        refine rnd_end (g := (k)) (k + 1) (by kernel_rfl) ?_ ?_
        · exact ⟨by omega, hH⟩
        · show 8 - (k + 1) < 8 - k; omega
      try simp only [beq_eq_false_iff_ne, ne_eq] at hc3
      refine sw_cv 3 (.int .u32 ((stepN (k + 1) X : Nat) : Int)) (by rw [step_even (by omega)]; rfl) rfl ?_
      refine sw_skip ?_
      refine bkN ?_
      refine sw_next ?_
      refine sw_region ?_
      refine gl_ops 2 [(0, .slice Ab b.length cb), (3, .int .u32 ((stepN (k + 1) X : Nat) : Int)), (4, Ni j), (23, .int .i64 (IntKind.i64.wrap (((k : Nat) : Int) + 1)))] (by kernel_rfl) ?_
      refine gl_cv 23 (Ni (k + 1)) (cv_i64 (by omega)) rfl ?_
      refine gl_ops 1 [(0, .slice Ab b.length cb), (3, .int .u32 ((stepN (k + 1) X : Nat) : Int)), (4, Ni j), (5, Ni (k + 1))] (by kernel_rfl) ?_
      refine gl_done rfl ?_
      refine rnd_end (g := (k)) (k + 1) (by kernel_rfl) ?_ ?_
      · exact ⟨by omega, hH⟩
      · show 8 - (k + 1) < 8 - k; omega
    try simp only [decide_eq_false_iff_not, Int.not_lt, Int.not_le] at hc2
    have hk8 : k = 8 := by omega
    refine sw_cv 3 (.int .u32 ((crc0 (b.take (j + 1)) : Nat) : Int)) (by rw [hk8, crc_bits, hX, ← crc0_step b j (by omega)]) rfl ?_
    refine sw_exit ?_
    refine thX ?_
    refine thX ?_
    refine bkH ?_
    refine bkN ?_
    refine sw_next ?_
    refine sw_region ?_
    refine gl_ops 2 [(0, .slice Ab b.length cb), (3, .int .u32 ((crc0 (b.take (j + 1)) : Nat) : Int)), (12, .int .i64 (IntKind.i64.wrap (((j : Nat) : Int) + 1)))] (by kernel_rfl) ?_
    refine gl_cv 12 (Ni (j + 1)) (cv_i64 (by omega)) rfl ?_
    refine gl_ops 1 [(0, .slice Ab b.length cb), (3, .int .u32 ((crc0 (b.take (j + 1)) : Nat) : Int)), (4, Ni (j + 1))] (by kernel_rfl) ?_
    refine gl_done rfl ?_
    refine rnd_end (g := (j)) (j + 1) (by kernel_rfl) ?_ ?_
    · exact ⟨by omega, hH⟩
    · show b.length - (j + 1) < b.length - j; omega
  try simp only [decide_eq_false_iff_not, Int.not_lt, Int.not_le] at hc1
  have hjl : j = b.length := by omega
  refine sw_exit ?_
  refine thX ?_
  refine thX ?_
  refine bkH ?_
  refine sw_next ?_
  refine sw_sr ?_
  refine gl_ops 2 [(33, .int .u32 (IntKind.u32.wrap (((BitVec.ofInt 32 4294967295 ^^^ BitVec.ofInt 32 ((crc0 (b.take j) : Nat) : Int)).toNat : Nat) : Int)))] (by kernel_rfl) ?_
  refine gl_cv 33 (.int .u32 ((crc b : Nat) : Int)) (cv_crc b j hjl) rfl ?_
  refine gl_ops 1 [(34, .int .i64 (IntKind.i64.wrap ((crc b : Nat) : Int)))] (by kernel_rfl) ?_
  refine gl_cv 34 (Ni (crc b)) (cv_i64 (by omega)) rfl ?_
  refine gl_ops 1 [(2, Ni (crc b))] (by kernel_rfl) ?_
  refine gl_dn rfl ?_
  refine sw_ret ?_
  refine ret1 rfl rfl  ?_
  exact ⟨rfl, (hH.sublist (List.nil_sublist _)).fresh⟩
theorem RFour_ct (n : Nat) (w : World) (hn : n < 9223372036854775808) :
    Fun Tryz.prog 92 [.int .i64 n] w fun v w' => ∃ v1, v = v1 ∧ Fresh w w' [.row v1 5 1 (four n).length (bv (four n))] := by
  refine fun_of_sw Tryz.func92 rfl 15 rfl rfl ?_
  have hH := Hp.start w
  refine sw_sr ?_
  refine gl_ops 1 [(0, Ni n)] (by kernel_rfl) ?_
  refine gl_dn rfl ?_
  refine sw_sr ?_
  refine gl_ops 2 [(0, Ni n), (4, .int .i64 (IntKind.i64.wrap (Int.tdiv ((n : Nat) : Int) 16777216)))] (by kernel_rfl) ?_
  refine gl_cv 4 (Ni (n / 16777216)) (cvq_i64 (by omega)) rfl ?_
  refine gl_ops 1 [(0, Ni n), (5, .int .u8 (IntKind.u8.wrap ((n / 16777216 : Nat) : Int)))] (by kernel_rfl) ?_
  refine gl_cv 5 (.int .u8 (((UInt8.ofNat (n / 16777216)).toNat : Nat) : Int)) (cv_byte _) rfl ?_
  refine gl_ops 2 [(0, Ni n), (5, .int .u8 (((UInt8.ofNat (n / 16777216)).toNat : Nat) : Int)), (7, .int .i64 (IntKind.i64.wrap (Int.tdiv ((n : Nat) : Int) 65536)))] (by kernel_rfl) ?_
  refine gl_cv 7 (Ni (n / 65536)) (cvq_i64 (by omega)) rfl ?_
  refine gl_ops 1 [(0, Ni n), (5, .int .u8 (((UInt8.ofNat (n / 16777216)).toNat : Nat) : Int)), (8, .int .u8 (IntKind.u8.wrap ((n / 65536 : Nat) : Int)))] (by kernel_rfl) ?_
  refine gl_cv 8 (.int .u8 (((UInt8.ofNat (n / 65536)).toNat : Nat) : Int)) (cv_byte _) rfl ?_
  refine gl_ops 2 [(0, Ni n), (5, .int .u8 (((UInt8.ofNat (n / 16777216)).toNat : Nat) : Int)), (8, .int .u8 (((UInt8.ofNat (n / 65536)).toNat : Nat) : Int)), (10, .int .i64 (IntKind.i64.wrap (Int.tdiv ((n : Nat) : Int) 256)))] (by kernel_rfl) ?_
  refine gl_cv 10 (Ni (n / 256)) (cvq_i64 (by omega)) rfl ?_
  refine gl_ops 1 [(0, Ni n), (5, .int .u8 (((UInt8.ofNat (n / 16777216)).toNat : Nat) : Int)), (8, .int .u8 (((UInt8.ofNat (n / 65536)).toNat : Nat) : Int)), (11, .int .u8 (IntKind.u8.wrap ((n / 256 : Nat) : Int)))] (by kernel_rfl) ?_
  refine gl_cv 11 (.int .u8 (((UInt8.ofNat (n / 256)).toNat : Nat) : Int)) (cv_byte _) rfl ?_
  refine gl_ops 2 [(5, .int .u8 (((UInt8.ofNat (n / 16777216)).toNat : Nat) : Int)), (8, .int .u8 (((UInt8.ofNat (n / 65536)).toNat : Nat) : Int)), (11, .int .u8 (((UInt8.ofNat (n / 256)).toNat : Nat) : Int)), (13, .int .u8 (IntKind.u8.wrap ((n : Nat) : Int)))] (by kernel_rfl) ?_
  refine gl_cv 13 (.int .u8 (((UInt8.ofNat n).toNat : Nat) : Int)) (cv_byte _) rfl ?_
  refine gl_st (st_buildS (e := 5) (zv := .int .u8 0) (m := 1) (bytes := 1) rfl rfl rfl (by kernel_rfl) (by kernel_rfl) rfl (cs := [.int .u8 (((UInt8.ofNat (n / 16777216)).toNat : Nat) : Int), .int .u8 (((UInt8.ofNat (n / 65536)).toNat : Nat) : Int), .int .u8 (((UInt8.ofNat (n / 256)).toNat : Nat) : Int), .int .u8 (((UInt8.ofNat n).toNat : Nat) : Int)]) (by kernel_rfl) rfl hH ?_)
  clear hH; intro b1 w2 hH
  refine gl_ops 1 [(2, .slice (some ⟨b1, 0, none⟩) 4 4)] (by kernel_rfl) ?_
  refine gl_dn rfl ?_
  refine sw_ret ?_
  refine ret1 rfl rfl  ?_
  exact ⟨_, rfl, (hH.row_eq 0 (l' := (four n).length) (xs' := bv (four n)) rfl rfl rfl).fresh⟩
theorem RNumber_ct (vb : Value) (b : List UInt8) (w : World) (hb : RB w.cell? vb b) (h4 : 4 ≤ b.length) :
    Fun Tryz.prog 96 [vb] w fun v w' => v = .int .i64 (get4 b : Nat) ∧ Fresh w w' [] := by
  have g0 := gb_lt b 0
  have g1 := gb_lt b 1
  have g2 := gb_lt b 2
  have g3 := gb_lt b 3
  obtain ⟨Ab, cb, rfl, hb1, hb2⟩ := hb.row.form
  refine fun_of_sw Tryz.func96 rfl 25 rfl rfl ?_
  have hH := Hp.start w
  refine sw_sr ?_
  refine gl_ops 1 [(0, .slice Ab b.length cb)] (by kernel_rfl) ?_
  refine gl_dn rfl ?_
  refine sw_seq ?_
  refine sw_draw (by kernel_rfl) (fun w_ => Hp w w_ (w.cell?) [] []) ?_
  replace hH := hH.drew
  generalize { w with drawn := w.drawn + 1 } = w1 at hH ⊢
  have hS9 := hH.sublist (List.nil_sublist _)
  refine gd_pure 0 rfl (by kernel_rfl) (PQ.th PQ.body) hS9 rfl rfl (.slice Ab b.length cb) (by kernel_rfl) ?_
  obtain ⟨p2, hi4, hp3⟩ := hb.row.idx 0 (by omega) (by decide)
  refine gd_q 1 rfl (by kernel_rfl) (PQ.th PQ.body) hS9 rfl rfl (fun w_ hS => (rd_idx (e := 5) (m := 1) (by kernel_rfl) (by kernel_rfl) rfl rfl hi4)) ?_
  refine gd_q 2 rfl (by kernel_rfl) (PQ.th PQ.body) hS9 rfl rfl (fun w_ hS => (rd_load (by kernel_rfl) rfl (hS.zin _ _ (hp3 0 _ (by decide) (bv_at b 0 (by omega)))))) ?_
  refine gd_keep [(0, .slice Ab b.length cb), (5, .int .u8 ((gb b 0 : Nat) : Int))] (by kernel_rfl) ?_
  refine gd_pure 3 rfl (by kernel_rfl) (PQ.th PQ.body) hS9 rfl rfl (.int .i64 (IntKind.i64.wrap ((gb b 0 : Nat) : Int))) (by kernel_rfl) ?_
  refine gd_cv 6 (Ni (gb b 0)) (cv_i64 (by omega)) rfl ?_
  refine gd_pure 4 rfl (by kernel_rfl) (PQ.th PQ.body) hS9 rfl rfl (.int .i64 (IntKind.i64.wrap (((gb b 0 : Nat) : Int) * 16777216))) (by kernel_rfl) ?_
  refine gd_cv 7 (Ni ((gb b 0) * 16777216)) (cv_i64 (by omega)) rfl ?_
  refine gd_pure 5 rfl (by kernel_rfl) (PQ.th PQ.body) hS9 rfl rfl (.slice Ab b.length cb) (by kernel_rfl) ?_
  refine gd_keep [(0, .slice Ab b.length cb), (7, Ni ((gb b 0) * 16777216)), (8, .slice Ab b.length cb)] (by kernel_rfl) ?_
  obtain ⟨p5, hi7, hp6⟩ := hb.row.idx 1 (by omega) (by decide)
  refine gd_q 6 rfl (by kernel_rfl) (PQ.th PQ.body) hS9 rfl rfl (fun w_ hS => (rd_idx (e := 5) (m := 1) (by kernel_rfl) (by kernel_rfl) rfl rfl hi7)) ?_
  refine gd_q 7 rfl (by kernel_rfl) (PQ.th PQ.body) hS9 rfl rfl (fun w_ hS => (rd_load (by kernel_rfl) rfl (hS.zin _ _ (hp6 0 _ (by decide) (bv_at b 1 (by omega)))))) ?_
  refine gd_pure 8 rfl (by kernel_rfl) (PQ.th PQ.body) hS9 rfl rfl (.int .i64 (IntKind.i64.wrap ((gb b 1 : Nat) : Int))) (by kernel_rfl) ?_
  refine gd_cv 11 (Ni (gb b 1)) (cv_i64 (by omega)) rfl ?_
  refine gd_keep [(0, .slice Ab b.length cb), (7, Ni ((gb b 0) * 16777216)), (11, Ni (gb b 1))] (by kernel_rfl) ?_
  refine gd_pure 9 rfl (by kernel_rfl) (PQ.th PQ.body) hS9 rfl rfl (.int .i64 (IntKind.i64.wrap (((gb b 1 : Nat) : Int) * 65536))) (by kernel_rfl) ?_
  refine gd_cv 12 (Ni ((gb b 1) * 65536)) (cv_i64 (by omega)) rfl ?_
  refine gd_pure 10 rfl (by kernel_rfl) (PQ.th PQ.body) hS9 rfl rfl (.int .i64 (IntKind.i64.wrap ((((gb b 0) * 16777216 : Nat) : Int) + (((gb b 1) * 65536 : Nat) : Int)))) (by kernel_rfl) ?_
  refine gd_cv 13 (Ni (((gb b 0) * 16777216) + ((gb b 1) * 65536))) (cv_i64 (by omega)) rfl ?_
  refine gd_pure 11 rfl (by kernel_rfl) (PQ.th PQ.body) hS9 rfl rfl (.slice Ab b.length cb) (by kernel_rfl) ?_
  refine gd_keep [(0, .slice Ab b.length cb), (13, Ni (((gb b 0) * 16777216) + ((gb b 1) * 65536))), (14, .slice Ab b.length cb)] (by kernel_rfl) ?_
  obtain ⟨p8, hi10, hp9⟩ := hb.row.idx 2 (by omega) (by decide)
  refine gd_q 12 rfl (by kernel_rfl) (PQ.th PQ.body) hS9 rfl rfl (fun w_ hS => (rd_idx (e := 5) (m := 1) (by kernel_rfl) (by kernel_rfl) rfl rfl hi10)) ?_
  refine gd_q 13 rfl (by kernel_rfl) (PQ.th PQ.body) hS9 rfl rfl (fun w_ hS => (rd_load (by kernel_rfl) rfl (hS.zin _ _ (hp9 0 _ (by decide) (bv_at b 2 (by omega)))))) ?_
  refine gd_pure 14 rfl (by kernel_rfl) (PQ.th PQ.body) hS9 rfl rfl (.int .i64 (IntKind.i64.wrap ((gb b 2 : Nat) : Int))) (by kernel_rfl) ?_
  refine gd_cv 17 (Ni (gb b 2)) (cv_i64 (by omega)) rfl ?_
  refine gd_keep [(0, .slice Ab b.length cb), (13, Ni (((gb b 0) * 16777216) + ((gb b 1) * 65536))), (17, Ni (gb b 2))] (by kernel_rfl) ?_
  refine gd_pure 15 rfl (by kernel_rfl) (PQ.th PQ.body) hS9 rfl rfl (.int .i64 (IntKind.i64.wrap (((gb b 2 : Nat) : Int) * 256))) (by kernel_rfl) ?_
  refine gd_cv 18 (Ni ((gb b 2) * 256)) (cv_i64 (by omega)) rfl ?_
  refine gd_pure 16 rfl (by kernel_rfl) (PQ.th PQ.body) hS9 rfl rfl (.int .i64 (IntKind.i64.wrap (((((gb b 0) * 16777216) + ((gb b 1) * 65536) : Nat) : Int) + (((gb b 2) * 256 : Nat) : Int)))) (by kernel_rfl) ?_
  refine gd_cv 19 (Ni ((((gb b 0) * 16777216) + ((gb b 1) * 65536)) + ((gb b 2) * 256))) (cv_i64 (by omega)) rfl ?_
  refine gd_pure 17 rfl (by kernel_rfl) (PQ.th PQ.body) hS9 rfl rfl (.slice Ab b.length cb) (by kernel_rfl) ?_
  refine gd_keep [(19, Ni ((((gb b 0) * 16777216) + ((gb b 1) * 65536)) + ((gb b 2) * 256))), (20, .slice Ab b.length cb)] (by kernel_rfl) ?_
  obtain ⟨p11, hi13, hp12⟩ := hb.row.idx 3 (by omega) (by decide)
  refine gd_q 18 rfl (by kernel_rfl) (PQ.th PQ.body) hS9 rfl rfl (fun w_ hS => (rd_idx (e := 5) (m := 1) (by kernel_rfl) (by kernel_rfl) rfl rfl hi13)) ?_
  refine gd_q 19 rfl (by kernel_rfl) (PQ.th PQ.body) hS9 rfl rfl (fun w_ hS => (rd_load (by kernel_rfl) rfl (hS.zin _ _ (hp12 0 _ (by decide) (bv_at b 3 (by omega)))))) ?_
  refine gd_pure 20 rfl (by kernel_rfl) (PQ.th PQ.body) hS9 rfl rfl (.int .i64 (IntKind.i64.wrap ((gb b 3 : Nat) : Int))) (by kernel_rfl) ?_
  refine gd_cv 23 (Ni (gb b 3)) (cv_i64 (by omega)) rfl ?_
  refine gd_keep [(19, Ni ((((gb b 0) * 16777216) + ((gb b 1) * 65536)) + ((gb b 2) * 256))), (23, Ni (gb b 3))] (by kernel_rfl) ?_
  refine gd_pure 21 rfl (by kernel_rfl) (PQ.th PQ.body) hS9 rfl rfl (.int .i64 (IntKind.i64.wrap ((((((gb b 0) * 16777216) + ((gb b 1) * 65536)) + ((gb b 2) * 256) : Nat) : Int) + ((gb b 3 : Nat) : Int)))) (by kernel_rfl) ?_
  refine gd_cv 24 (Ni (((((gb b 0) * 16777216) + ((gb b 1) * 65536)) + ((gb b 2) * 256)) + (gb b 3))) (cv_i64 (by omega)) rfl ?_
  refine gd_pure 22 rfl (by kernel_rfl) (PQ.th PQ.body) hS9 rfl rfl (Ni (((((gb b 0) * 16777216) + ((gb b 1) * 65536)) + ((gb b 2) * 256)) + (gb b 3))) (by kernel_rfl) ?_
  refine gd_done (by kernel_rfl) ?_
  refine at_sub [(2, Ni (((((gb b 0) * 16777216) + ((gb b 1) * 65536)) + ((gb b 2) * 256)) + (gb b 3)))] (Sub.of_eq (by kernel_rfl)) ?_
  refine sw_next ?_
  refine sw_ret ?_
  refine ret1 rfl rfl  ?_
  exact ⟨rfl, hH.fresh⟩
theorem RFrame_ct (vp : Value) (p : List UInt8) (w : World) (hp : RB w.cell? vp p) :
    Fun Tryz.prog 73 [vp] w fun v w' => ∃ v1, v = .tuple #[v1, .int .i64 ((if 1048576 < p.length then 2 else 0 : Nat) : Int)] ∧ Fresh w w' [.row v1 5 1 (frameO p).length (bv (frameO p))] := by
  have hpl : p.length ≤ 9223372036854775807 := RB.le hp
  have hcl := crc_lt (four p.length ++ p)
  have h4l := four_length p.length
  have h4c := four_length (crc (four p.length ++ p))
  have hap : (four p.length ++ p).length = 4 + p.length := by rw [List.length_append, four_length]
  obtain ⟨Ap, cp, rfl, hp1, hp2⟩ := hp.row.form
  refine fun_of_sw Tryz.func73 rfl 20 rfl rfl ?_
  have hH := Hp.start w
  refine sw_sr ?_
  refine gl_ops 2 [(0, .slice Ap p.length cp)] (by kernel_rfl) ?_
  refine gl_dn rfl ?_
  refine sw_seq ?_
  refine sw_sr ?_
  refine gl_ops 1 [(0, .slice Ap p.length cp), (6, .slice Ap p.length cp)] (by kernel_rfl) ?_
  refine gl_q rfl rfl rfl (rd_len (e := 5) (by kernel_rfl) rfl) ?_
  refine gl_ops 1 [(0, .slice Ap p.length cp), (8, .bool (decide (((p.length : Nat) : Int) > (1048576 : Int))))] (by kernel_rfl) ?_
  refine gl_dn rfl ?_
  refine sw_cond rfl rfl (fun hc1 => ?_) (fun hc1 => ?_)
  ·
    try simp only [decide_eq_true_eq] at hc1
    refine sw_sr ?_
    refine gl_ops 2 [(2, .slice none 0 0), (3, .int .i64 2)] (by kernel_rfl) ?_
    refine gl_dn rfl ?_
    refine sw_ret ?_
    refine thR ?_
    refine ret2 rfl rfl rfl  ?_
    exact ⟨_, by rw [if_pos (by omega)]; rfl, (hH.nilRow 5 1).cast (by unfold frameO; rw [if_pos (by omega)]; rfl) |>.fresh⟩
  try simp only [decide_eq_false_iff_not, Int.not_lt, Int.not_le] at hc1
  refine sw_skip ?_
  refine sw_next ?_
  refine sw_sr ?_
  refine gl_ops 1 [(0, .slice Ap p.length cp), (9, .slice Ap p.length cp)] (by kernel_rfl) ?_
  refine gl_q rfl rfl rfl (rd_len (e := 5) (by kernel_rfl) rfl) ?_
  refine gl_st (st_call rfl rfl rfl (by kernel_rfl) rfl (RFour_ct p.length _ (by first | omega | (simp <;> omega))) ?_)
  rintro _ w3 ⟨v1, rfl, hF4⟩
  replace hH := hH.call hF4; clear hF4
  obtain ⟨A5, c6, rfl, hl7, hm8⟩ := hH.row_form 0 rfl
  refine gl_ops 1 [(11, .slice A5 ((four p.length).length) c6), (12, .slice Ap p.length cp)] (by kernel_rfl) ?_
  refine gl_st (st_appH (e := 5) (zv := .int .u8 0) (m := 1) (bytes := 1) 0 rfl rfl rfl (by kernel_rfl) (by kernel_rfl) rfl (by decide) hH rfl rfl rfl (hp.row.mono hH.zin) (bv_one _) (by unfold maxLen; omega) (by omega) ?_)
  clear hH; intro v9 w10 hH
  replace hH := hH.row_eq 0 (l' := ((four p.length) ++ p).length) (xs' := bv ((four p.length) ++ p)) rfl (by simp only [List.length_append, List.length_cons, List.length_nil] <;> omega) ((bv_append _ _).symm)
  obtain ⟨A11, c12, rfl, hl13, hm14⟩ := hH.row_form 0 rfl
  refine gl_ops 1 [(4, .slice A11 (((four p.length) ++ p).length) c12)] (by kernel_rfl) ?_
  refine gl_dn rfl ?_
  refine sw_sr ?_
  refine gl_ops 1 [(4, .slice A11 (((four p.length) ++ p).length) c12), (14, .slice A11 (((four p.length) ++ p).length) c12)] (by kernel_rfl) ?_
  refine gl_st (st_call rfl rfl rfl (by kernel_rfl) rfl (RSum_ct _ _ _ (rb_own hH 0 rfl)) ?_)
  rintro _ w15 ⟨rfl, hF16⟩
  replace hH := hH.call hF16; clear hF16
  refine gl_ops 1 [(4, .slice A11 (((four p.length) ++ p).length) c12), (5, Ni (crc ((four p.length) ++ p)))] (by kernel_rfl) ?_
  refine gl_dn rfl ?_
  refine sw_sr ?_
  refine gl_ops 2 [(16, .slice A11 (((four p.length) ++ p).length) c12), (17, Ni (crc ((four p.length) ++ p)))] (by kernel_rfl) ?_
  refine gl_st (st_call rfl rfl rfl (by kernel_rfl) rfl (RFour_ct (crc ((four p.length) ++ p)) _ (by first | omega | (simp <;> omega))) ?_)
  rintro _ w19 ⟨v17, rfl, hF20⟩
  replace hH := hH.call hF20; clear hF20
  obtain ⟨A21, c22, rfl, hl23, hm24⟩ := hH.row_form 1 rfl
  refine gl_st (st_appH (e := 5) (zv := .int .u8 0) (m := 1) (bytes := 1) 0 rfl rfl rfl (by kernel_rfl) (by kernel_rfl) rfl (by decide) hH rfl rfl rfl (hH.row_reads 1 rfl) (bv_one _) (by unfold maxLen; omega) (by omega) ?_)
  clear hH; intro v25 w26 hH
  replace hH := hH.row_eq 0 (l' := (((four p.length) ++ p) ++ (four (crc ((four p.length) ++ p)))).length) (xs' := bv (((four p.length) ++ p) ++ (four (crc ((four p.length) ++ p))))) rfl (by simp only [List.length_append, List.length_cons, List.length_nil] <;> omega) ((bv_append _ _).symm)
  obtain ⟨A27, c28, rfl, hl29, hm30⟩ := hH.row_form 0 rfl
  refine gl_ops 2 [(2, .slice A27 ((((four p.length) ++ p) ++ (four (crc ((four p.length) ++ p)))).length) c28), (3, .int .i64 0)] (by kernel_rfl) ?_
  refine gl_dn rfl ?_
  refine sw_ret ?_
  refine ret2 rfl rfl rfl  ?_
  exact ⟨_, by rw [if_neg (by omega)]; rfl, ((hH.sublist (.cons_cons _ (List.nil_sublist _))).cast (by unfold frameO frameB; rw [if_neg (by omega)])).fresh⟩
theorem ROpen_ct (vb : Value) (b : List UInt8) (w : World) (hb : RB w.cell? vb b) :
    Fun Tryz.prog 77 [vb] w fun v w' => ∃ v1, v = .tuple #[v1, .int .i64 ((openF b).2.1 : Nat), .int .i64 ((openF b).2.2 : Nat)] ∧ Fresh w w' [.row v1 5 1 (openF b).1.length (bv (openF b).1)] := by
  have hbl : b.length ≤ 9223372036854775807 := RB.le hb
  have hg4 := get4_lt b
  have hcl := crc_lt (b.take (get4 b + 4))
  have hg5 := get4_lt (b.drop (get4 b + 4))
  obtain ⟨Ab, cb, rfl, hb1, hb2⟩ := hb.row.form
  refine fun_of_sw Tryz.func77 rfl 37 rfl rfl ?_
  have hH := Hp.start w
  refine sw_sr ?_
  refine gl_ops 3 [(0, .slice Ab b.length cb)] (by kernel_rfl) ?_
  refine gl_dn rfl ?_
  refine sw_seq ?_
  refine sw_sr ?_
  refine gl_ops 1 [(0, .slice Ab b.length cb), (6, .slice Ab b.length cb)] (by kernel_rfl) ?_
  refine gl_q rfl rfl rfl (rd_len (e := 5) (by kernel_rfl) rfl) ?_
  refine gl_ops 1 [(0, .slice Ab b.length cb), (8, .bool (decide (((b.length : Nat) : Int) < (4 : Int))))] (by kernel_rfl) ?_
  refine gl_dn rfl ?_
  refine sw_cond rfl rfl (fun hc1 => ?_) (fun hc1 => ?_)
  ·
    try simp only [decide_eq_true_eq] at hc1
    refine sw_sr ?_
    refine gl_ops 3 [(2, .slice none 0 0), (3, .int .i64 0), (4, .int .i64 3)] (by kernel_rfl) ?_
    refine gl_dn rfl ?_
    refine sw_ret ?_
    refine thR ?_
    refine ret3 rfl rfl rfl rfl  ?_
    exact ⟨_, by unfold openF; rw [if_pos (by omega)] <;> rfl, ((hH.sublist (List.nil_sublist _)).nilRow 5 1).cast (by unfold openF; rw [if_pos (by omega)] <;> rfl) |>.fresh⟩
  try simp only [decide_eq_false_iff_not, Int.not_lt, Int.not_le] at hc1
  refine sw_skip ?_
  refine sw_next ?_
  refine sw_sr ?_
  refine gl_ops 1 [(0, .slice Ab b.length cb), (9, .slice Ab b.length cb)] (by kernel_rfl) ?_
  refine gl_st (st_call rfl rfl rfl (by kernel_rfl) rfl (RNumber_ct _ _ _ (hb.mono hH.zin) (by first | omega | (simp <;> omega))) ?_)
  rintro _ w1 ⟨rfl, hF2⟩
  replace hH := hH.call hF2; clear hF2
  refine gl_ops 1 [(0, .slice Ab b.length cb), (5, Ni (get4 b))] (by kernel_rfl) ?_
  refine gl_dn rfl ?_
  refine sw_seq ?_
  refine sw_sr ?_
  refine gl_ops 2 [(0, .slice Ab b.length cb), (5, Ni (get4 b)), (12, .bool (decide (((get4 b : Nat) : Int) > (1048576 : Int))))] (by kernel_rfl) ?_
  refine gl_dn rfl ?_
  refine sw_cond rfl rfl (fun hc2 => ?_) (fun hc2 => ?_)
  ·
    try simp only [decide_eq_true_eq] at hc2
    refine sw_sr ?_
    refine gl_ops 3 [(2, .slice none 0 0), (3, .int .i64 0), (4, .int .i64 2)] (by kernel_rfl) ?_
    refine gl_dn rfl ?_
    refine sw_ret ?_
    refine thR ?_
    refine ret3 rfl rfl rfl rfl  ?_
    exact ⟨_, by unfold openF; rw [if_neg (by omega), if_pos (by omega)] <;> rfl, ((hH.sublist (List.nil_sublist _)).nilRow 5 1).cast (by unfold openF; rw [if_neg (by omega), if_pos (by omega)] <;> rfl) |>.fresh⟩
  try simp only [decide_eq_false_iff_not, Int.not_lt, Int.not_le] at hc2
  refine sw_skip ?_
  refine sw_next ?_
  refine sw_seq ?_
  refine sw_sr ?_
  refine gl_ops 1 [(0, .slice Ab b.length cb), (5, Ni (get4 b)), (13, .slice Ab b.length cb)] (by kernel_rfl) ?_
  refine gl_q rfl rfl rfl (rd_len (e := 5) (by kernel_rfl) rfl) ?_
  refine gl_ops 2 [(0, .slice Ab b.length cb), (5, Ni (get4 b)), (14, Ni b.length), (16, .int .i64 (IntKind.i64.wrap (((get4 b : Nat) : Int) + 8)))] (by kernel_rfl) ?_
  refine gl_cv 16 (Ni ((get4 b) + 8)) (cv_i64 (by omega)) rfl ?_
  refine gl_ops 1 [(0, .slice Ab b.length cb), (5, Ni (get4 b)), (17, .bool (decide (((b.length : Nat) : Int) < (((get4 b) + 8 : Nat) : Int))))] (by kernel_rfl) ?_
  refine gl_dn rfl ?_
  refine sw_cond rfl rfl (fun hc3 => ?_) (fun hc3 => ?_)
  ·
    try simp only [decide_eq_true_eq] at hc3
    refine sw_sr ?_
    refine gl_ops 3 [(2, .slice none 0 0), (3, .int .i64 0), (4, .int .i64 3)] (by kernel_rfl) ?_
    refine gl_dn rfl ?_
    refine sw_ret ?_
    refine thR ?_
    refine ret3 rfl rfl rfl rfl  ?_
    exact ⟨_, by unfold openF; rw [if_neg (by omega), if_neg (by omega), if_pos (by omega)] <;> rfl, ((hH.sublist (List.nil_sublist _)).nilRow 5 1).cast (by unfold openF; rw [if_neg (by omega), if_neg (by omega), if_pos (by omega)] <;> rfl) |>.fresh⟩
  try simp only [decide_eq_false_iff_not, Int.not_lt, Int.not_le] at hc3
  refine sw_skip ?_
  refine sw_next ?_
  refine sw_seq ?_
  refine sw_seq ?_
  refine sw_draw (by kernel_rfl) (fun w_ => Hp w w_ (w.cell?) [] []) ?_
  replace hH := hH.drew
  generalize { w1 with drawn := w1.drawn + 1 } = w3 at hH ⊢
  have hS9 := hH.sublist (List.nil_sublist _)
  refine gd_pure 0 rfl (by kernel_rfl) (PQ.th (PQ.th PQ.body)) hS9 rfl rfl (.slice Ab b.length cb) (by kernel_rfl) ?_
  refine gd_pure 1 rfl (by kernel_rfl) (PQ.th (PQ.th PQ.body)) hS9 rfl rfl (Ni (get4 b)) (by kernel_rfl) ?_
  refine gd_pure 2 rfl (by kernel_rfl) (PQ.th (PQ.th PQ.body)) hS9 rfl rfl (.int .i64 (IntKind.i64.wrap (((get4 b : Nat) : Int) + 4))) (by kernel_rfl) ?_
  refine gd_cv 20 (Ni ((get4 b) + 4)) (cv_i64 (by omega)) rfl ?_
  refine gd_keep [(0, .slice Ab b.length cb), (5, Ni (get4 b)), (18, .slice Ab b.length cb), (20, Ni ((get4 b) + 4))] (by kernel_rfl) ?_
  obtain ⟨A4, hk5, hv6⟩ := hb.row.cut (by decide) 0 ((get4 b) + 4) (by omega) (by omega)
  refine gd_q 3 rfl (by kernel_rfl) (PQ.th (PQ.th PQ.body)) hS9 rfl rfl (fun w_ hS => (rd_cut (e := 5) (m := 1) (by kernel_rfl) (by kernel_rfl) rfl (.inl ⟨rfl, rfl⟩) (.inr ⟨_, _, rfl, rfl⟩) hk5)) ?_
  have hr7 := RB.head hv6 (by omega)
  refine gd_pure 5 rfl (by kernel_rfl) (PQ.th (PQ.th PQ.body)) hS9 rfl rfl (.slice Ab b.length cb) (by kernel_rfl) ?_
  refine gd_pure 6 rfl (by kernel_rfl) (PQ.th (PQ.th PQ.body)) hS9 rfl rfl (Ni (get4 b)) (by kernel_rfl) ?_
  refine gd_keep [(0, .slice Ab b.length cb), (5, Ni (get4 b)), (21, .slice A4 (((get4 b) + 4) - 0) (cb - 0)), (23, .slice Ab b.length cb), (24, Ni (get4 b))] (by kernel_rfl) ?_
  refine gd_pure 7 rfl (by kernel_rfl) (PQ.th (PQ.th PQ.body)) hS9 rfl rfl (.int .i64 (IntKind.i64.wrap (((get4 b : Nat) : Int) + 4))) (by kernel_rfl) ?_
  refine gd_cv 25 (Ni ((get4 b) + 4)) (cv_i64 (by omega)) rfl ?_
  obtain ⟨A8, hk9, hv10⟩ := hb.row.cut (by decide) ((get4 b) + 4) b.length (by omega) (by omega)
  refine gd_q 8 rfl (by kernel_rfl) (PQ.th (PQ.th PQ.body)) hS9 rfl rfl (fun w_ hS => (rd_cut (e := 5) (m := 1) (by kernel_rfl) (by kernel_rfl) rfl (.inr ⟨_, _, rfl, rfl⟩) (.inl ⟨rfl, rfl⟩) hk9)) ?_
  have hr11 := RB.tail hv10
  refine gd_st 4 (by kernel_rfl) (st_call rfl rfl rfl (by kernel_rfl) rfl (RSum_ct _ _ _ (hr7.mono hH.zin)) ?_)
  rintro _ w12 ⟨rfl, hF13⟩
  replace hH := hH.call hF13; clear hF13
  replace hS9 := hH.sublist (List.nil_sublist _)
  refine ⟨hS9, ?_⟩
  refine gd_keep [(0, .slice Ab b.length cb), (5, Ni (get4 b)), (22, Ni (crc (b.take ((get4 b) + 4)))), (26, .slice A8 (b.length - ((get4 b) + 4)) (cb - ((get4 b) + 4)))] (by kernel_rfl) ?_
  refine gd_st 9 (by kernel_rfl) (st_call rfl rfl rfl (by kernel_rfl) rfl (RNumber_ct _ _ _ (hr11.mono hH.zin) (by first | omega | (simp <;> omega))) ?_)
  rintro _ w14 ⟨rfl, hF15⟩
  replace hH := hH.call hF15; clear hF15
  replace hS9 := hH.sublist (List.nil_sublist _)
  refine ⟨hS9, ?_⟩
  refine gd_keep [(0, .slice Ab b.length cb), (5, Ni (get4 b)), (22, Ni (crc (b.take ((get4 b) + 4)))), (27, Ni (get4 (b.drop ((get4 b) + 4))))] (by kernel_rfl) ?_
  refine gd_pure 10 rfl (by kernel_rfl) (PQ.th (PQ.th PQ.body)) hS9 rfl rfl (.bool (((crc (b.take ((get4 b) + 4)) : Nat) : Int) != ((get4 (b.drop ((get4 b) + 4)) : Nat) : Int))) (by kernel_rfl) ?_
  refine gd_done (by kernel_rfl) ?_
  refine at_sub [(0, .slice Ab b.length cb), (5, Ni (get4 b)), (28, .bool (((crc (b.take ((get4 b) + 4)) : Nat) : Int) != ((get4 (b.drop ((get4 b) + 4)) : Nat) : Int)))] (Sub.of_eq (by kernel_rfl)) ?_
  refine sw_next ?_
  refine sw_cond rfl rfl (fun hc4 => ?_) (fun hc4 => ?_)
  ·
    try simp only [bne_iff_ne, ne_eq] at hc4
    refine sw_sr ?_
    refine gl_ops 3 [(2, .slice none 0 0), (3, .int .i64 0), (4, .int .i64 5)] (by kernel_rfl) ?_
    refine gl_dn rfl ?_
    refine sw_ret ?_
    refine thR ?_
    refine ret3 rfl rfl rfl rfl  ?_
    exact ⟨_, by unfold openF; rw [if_neg (by omega), if_neg (by omega), if_neg (by omega), if_pos (by omega)] <;> rfl, ((hH.sublist (List.nil_sublist _)).nilRow 5 1).cast (by unfold openF; rw [if_neg (by omega), if_neg (by omega), if_neg (by omega), if_pos (by omega)] <;> rfl) |>.fresh⟩
  try simp only [bne_eq_false_iff_eq] at hc4
  refine sw_skip ?_
  refine sw_next ?_
  refine sw_sr ?_
  refine gl_st (st_buildS0 (e := 5) (m := 1) rfl rfl rfl (by kernel_rfl) (by kernel_rfl) hH ?_)
  clear hH; intro b16 w17 hH
  refine gl_ops 3 [(5, Ni (get4 b)), (29, .slice (some ⟨b16, 0, none⟩) 0 0), (30, .slice Ab b.length cb), (32, .int .i64 (IntKind.i64.wrap (((get4 b : Nat) : Int) + 4)))] (by kernel_rfl) ?_
  refine gl_cv 32 (Ni ((get4 b) + 4)) (cv_i64 (by omega)) rfl ?_
  obtain ⟨A18, hk19, hv20⟩ := hb.row.cut (by decide) 4 ((get4 b) + 4) (by omega) (by omega)
  refine gl_q rfl rfl rfl (rd_cut (e := 5) (m := 1) (by kernel_rfl) (by kernel_rfl) rfl (.inr ⟨_, _, rfl, rfl⟩) (.inr ⟨_, _, rfl, rfl⟩) hk19) ?_
  have hr21 := RB.cut hv20 (by omega)
  have hcl4 : ((b.drop 4).take (get4 b + 4 - 4)).length = get4 b := by simp; omega
  refine gl_st (st_appH (e := 5) (zv := .int .u8 0) (m := 1) (bytes := 1) 0 rfl rfl rfl (by kernel_rfl) (by kernel_rfl) rfl (by decide) hH rfl rfl rfl (hr21.row.mono hH.zin) (bv_one _) (by unfold maxLen; omega) (by omega) ?_)
  clear hH; intro v22 w23 hH
  replace hH := hH.row_eq 0 (l' := ((b.drop 4).take (((get4 b) + 4) - 4)).length) (xs' := bv ((b.drop 4).take (((get4 b) + 4) - 4))) rfl (Nat.zero_add _) (List.nil_append _)
  obtain ⟨A24, c25, rfl, hl26, hm27⟩ := hH.row_form 0 rfl
  refine gl_ops 2 [(34, .slice A24 (((b.drop 4).take (((get4 b) + 4) - 4)).length) c25), (36, .int .i64 (IntKind.i64.wrap (((get4 b : Nat) : Int) + 8)))] (by kernel_rfl) ?_
  refine gl_cv 36 (Ni ((get4 b) + 8)) (cv_i64 (by omega)) rfl ?_
  refine gl_ops 3 [(2, .slice A24 (((b.drop 4).take (((get4 b) + 4) - 4)).length) c25), (3, Ni ((get4 b) + 8)), (4, .int .i64 0)] (by kernel_rfl) ?_
  refine gl_dn rfl ?_
  refine sw_ret ?_
  refine ret3 rfl rfl rfl rfl  ?_
  exact ⟨_, by unfold openF; rw [if_neg (by omega), if_neg (by omega), if_neg (by omega), if_neg (by omega)] <;> rfl, ((hH.sublist (.cons_cons _ (List.nil_sublist _))).cast (by unfold openF; rw [if_neg (by omega), if_neg (by omega), if_neg (by omega), if_neg (by omega)]; rw [Nat.add_sub_cancel] <;> rfl)).fresh⟩
end Go.Proofs.YtjcchjgkkplamaaGreatDoor
