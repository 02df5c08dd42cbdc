/- Layer 20 (vault): the inbox: what its functions answer. -/
import Derived.Test.YtjcchjgkkplamaaGreatDoorVault
import Derived.Test.YtjcchjgkkplamaaGreatDoorInboxP
set_option maxRecDepth 100000
set_option maxHeartbeats 2000000
set_option linter.unusedVariables false
set_option linter.unusedSimpArgs false
namespace Go.Proofs.YtjcchjgkkplamaaGreatDoor
open Go.RowKit Go.SW
/-- What an inbox owns: its map, itself, the rows of bytes, the box that tells of which snapshot it is. -/
def ibxO (xb nb mb : Nat) (S : Ibx) (l : List (Int × Value)) : List Own :=
  match S.new with
  | none => [.kmap mb (intK .i64) l, .blk xb 113 [.pointer none, .int .i64 ((S.many : Nat) : Int), .map (some mb)], .grp (ibxOwn 5 S.rs)]
  | some u => [.kmap mb (intK .i64) l, .blk xb 113 [.pointer (some ⟨nb, 0, none⟩), .int .i64 ((S.many : Nat) : Int), .map (some mb)], .grp (ibxOwn 5 S.rs), .blk nb 116 [.int .i64 u.1, .int .i64 u.2]]
def i64 (a : Int) : Prop := -9223372036854775808 ≤ a ∧ a ≤ 9223372036854775807
structure Prt.I64 (p : Prt) : Prop where
  i1 : -9223372036854775808 ≤ p.idx ∧ p.idx ≤ 9223372036854775807
  i2 : -9223372036854775808 ≤ p.term ∧ p.term ≤ 9223372036854775807
  i3 : -9223372036854775808 ≤ p.n ∧ p.n ≤ 9223372036854775807
  i4 : -9223372036854775808 ≤ p.many ∧ p.many ≤ 9223372036854775807

theorem May_ct (p : Prt) (vb : Value) (w : World) (hb : RB w.cell? vb p.bytes) (hp : p.I64) :
    Fun Tryz.prog 52 [.agg #[.int .i64 p.idx, .int .i64 p.term, .int .i64 p.n, .int .i64 p.many, vb]] w fun v w' => v = .bool (mayP p) ∧ Fresh w w' [] := by
  obtain ⟨Ab, cb, rfl, hb1, hb2⟩ := hb.row.form
  obtain ⟨hp1, hp2, hp3, hp4⟩ := hp
  refine fun_of_sw Tryz.func52 rfl 41 rfl rfl ?_
  have hH := Hp.start w
  refine sw_sr ?_
  refine gl_st (st_boxH (cs := [.int .i64 p.idx, .int .i64 p.term, .int .i64 p.n, .int .i64 p.many, .slice Ab p.bytes.length cb]) rfl rfl rfl rfl hH ?_)
  clear hH; intro b1 w2 hH
  refine gl_ops 1 [(1, Pp b1 0)] (by kernel_rfl) ?_
  refine gl_dn rfl ?_
  refine sw_seq ?_
  refine sw_block ?_
  refine sw_seq ?_
  refine sw_sr ?_
  refine gl_ops 1 [(1, Pp b1 0), (4, Pp b1 0)] (by kernel_rfl) ?_
  refine gl_q rfl rfl rfl (rd_loadK 0 (by kernel_rfl) hH rfl rfl rfl) ?_
  refine gl_ops 1 [(1, Pp b1 0), (5, .int .i64 p.idx), (6, Pp b1 1)] (by kernel_rfl) ?_
  refine gl_q rfl rfl rfl (rd_loadK 0 (by kernel_rfl) hH rfl rfl rfl) ?_
  refine gl_ops 1 [(1, Pp b1 0), (5, .int .i64 p.idx), (7, .int .i64 p.term), (8, Pp b1 2)] (by kernel_rfl) ?_
  refine gl_q rfl rfl rfl (rd_loadK 0 (by kernel_rfl) hH rfl rfl rfl) ?_
  refine gl_ops 1 [(1, Pp b1 0), (10, .int .i64 (if p.n < (if p.term < p.idx then p.term else p.idx) then p.n else (if p.term < p.idx then p.term else p.idx)))] (by kernel_rfl) ?_
  refine gl_cv 10 (.int .i64 (min (min p.idx p.term) p.n)) (cv_minI3) rfl ?_
  refine gl_ops 2 [(1, Pp b1 0), (3, .bool (decide ((min (min p.idx p.term) p.n) < (0 : Int))))] (by kernel_rfl) ?_
  refine gl_dn rfl ?_
  refine sw_cond rfl rfl (fun hc1 => ?_) (fun hc1 => ?_)
  ·
    refine sw_cv 3 (.bool true) (by rw [hc1]) rfl ?_
    try simp only [decide_eq_true_eq] at hc1
    refine sw_skip ?_
    refine sw_next ?_
    refine sw_true rfl rfl ?_
    refine sw_sr ?_
    refine gl_ops 1 [(2, .bool false)] (by kernel_rfl) ?_
    refine gl_dn rfl ?_
    refine sw_ret ?_
    refine bkR ?_
    refine thR ?_
    refine ret1 rfl rfl  ?_
    exact ⟨by unfold mayP; rw [if_pos (by omega)], (hH.sublist (List.nil_sublist _)).fresh⟩
  refine sw_cv 3 (.bool false) (by rw [hc1]) rfl ?_
  try simp only [decide_eq_false_iff_not, Int.not_lt, Int.not_le] at hc1
  refine sw_sr ?_
  refine gl_ops 1 [(1, Pp b1 0), (12, Pp b1 3)] (by kernel_rfl) ?_
  refine gl_q rfl rfl rfl (rd_loadK 0 (by kernel_rfl) hH rfl rfl rfl) ?_
  refine gl_ops 2 [(1, Pp b1 0), (3, .bool (decide ((p.many : Int) > (1024 : Int))))] (by kernel_rfl) ?_
  refine gl_dn rfl ?_
  refine sw_cond rfl rfl (fun hc3 => ?_) (fun hc3 => ?_)
  ·
    refine sw_cv 3 (.bool true) (by rw [hc3]) rfl ?_
    try simp only [decide_eq_true_eq] at hc3
    refine sw_skip ?_
    refine sw_next ?_
    refine sw_true rfl rfl ?_
    refine sw_sr ?_
    refine gl_ops 1 [(2, .bool false)] (by kernel_rfl) ?_
    refine gl_dn rfl ?_
    refine sw_ret ?_
    refine bkR ?_
    refine thR ?_
    refine ret1 rfl rfl  ?_
    exact ⟨by unfold mayP; rw [if_neg (by omega), if_pos (by omega)], (hH.sublist (List.nil_sublist _)).fresh⟩
  refine sw_cv 3 (.bool false) (by rw [hc3]) rfl ?_
  try simp only [decide_eq_false_iff_not, Int.not_lt, Int.not_le] at hc3
  refine sw_region ?_
  refine gl_ops 1 [(1, Pp b1 0), (15, Pp b1 2)] (by kernel_rfl) ?_
  refine gl_q rfl rfl rfl (rd_loadK 0 (by kernel_rfl) hH rfl rfl rfl) ?_
  refine gl_ops 1 [(1, Pp b1 0), (16, .int .i64 p.n), (17, Pp b1 3)] (by kernel_rfl) ?_
  refine gl_q rfl rfl rfl (rd_loadK 0 (by kernel_rfl) hH rfl rfl rfl) ?_
  refine gl_ops 2 [(1, Pp b1 0), (3, .bool (decide ((p.n : Int) ≥ (p.many : Int))))] (by kernel_rfl) ?_
  refine gl_done rfl ?_
  refine sw_next ?_
  refine sw_cond rfl rfl (fun hc5 => ?_) (fun hc5 => ?_)
  ·
    refine sw_cv 3 (.bool true) (by rw [hc5]) rfl ?_
    try simp only [decide_eq_true_eq] at hc5
    refine sw_sr ?_
    refine gl_ops 1 [(2, .bool false)] (by kernel_rfl) ?_
    refine gl_dn rfl ?_
    refine sw_ret ?_
    refine bkR ?_
    refine thR ?_
    refine ret1 rfl rfl  ?_
    exact ⟨by unfold mayP; rw [if_neg (by omega), if_neg (by omega), if_pos (by omega)], (hH.sublist (List.nil_sublist _)).fresh⟩
  refine sw_cv 3 (.bool false) (by rw [hc5]) rfl ?_
  try simp only [decide_eq_false_iff_not, Int.not_lt, Int.not_le] at hc5
  refine sw_sr ?_
  refine gl_ops 1 [(1, Pp b1 0), (21, Pp b1 2)] (by kernel_rfl) ?_
  refine gl_q rfl rfl rfl (rd_loadK 0 (by kernel_rfl) hH rfl rfl rfl) ?_
  refine gl_ops 1 [(1, Pp b1 0), (22, .int .i64 p.n), (23, Pp b1 3)] (by kernel_rfl) ?_
  refine gl_q rfl rfl rfl (rd_loadK 0 (by kernel_rfl) hH rfl rfl rfl) ?_
  refine gl_ops 1 [(1, Pp b1 0), (22, .int .i64 p.n), (25, .int .i64 (IntKind.i64.wrap (p.many - 1)))] (by kernel_rfl) ?_
  refine gl_cv 25 (.int .i64 (p.many - 1)) (cv_i64 (by omega)) rfl ?_
  refine gl_ops 2 [(1, Pp b1 0), (20, .bool (decide ((p.n : Int) < (p.many - 1))))] (by kernel_rfl) ?_
  refine gl_dn rfl ?_
  refine sw_cond rfl rfl (fun hc6 => ?_) (fun hc6 => ?_)
  ·
    refine sw_cv 20 (.bool true) (by rw [hc6]) rfl ?_
    try simp only [decide_eq_true_eq] at hc6
    refine sw_sr ?_
    refine gl_ops 1 [(27, Pp b1 4)] (by kernel_rfl) ?_
    refine gl_q rfl rfl rfl (rd_loadK 0 (by kernel_rfl) hH rfl rfl rfl) ?_
    refine gl_q rfl rfl rfl (rd_len (e := 5) (by kernel_rfl) rfl) ?_
    refine gl_ops 2 [(2, .bool (((p.bytes.length : Nat) : Int) == (512 : Int)))] (by kernel_rfl) ?_
    refine gl_dn rfl ?_
    refine sw_ret ?_
    refine bkR ?_
    refine thR ?_
    refine ret1 rfl rfl  ?_
    exact ⟨by unfold mayP; rw [if_neg (by omega), if_neg (by omega), if_neg (by omega), if_pos (by omega)]; congr 1; rw [Bool.eq_iff_iff]; simp only [beq_iff_eq]; omega, (hH.sublist (List.nil_sublist _)).fresh⟩
  refine sw_cv 20 (.bool false) (by rw [hc6]) rfl ?_
  try simp only [decide_eq_false_iff_not, Int.not_lt, Int.not_le] at hc6
  refine sw_skip ?_
  refine bkN ?_
  refine sw_next ?_
  refine sw_sr ?_
  refine gl_ops 1 [(1, Pp b1 0), (31, Pp b1 4)] (by kernel_rfl) ?_
  refine gl_q rfl rfl rfl (rd_loadK 0 (by kernel_rfl) hH rfl rfl rfl) ?_
  refine gl_q rfl rfl rfl (rd_len (e := 5) (by kernel_rfl) rfl) ?_
  refine gl_ops 2 [(1, Pp b1 0), (35, .bool (decide (((p.bytes.length : Nat) : Int) > (0 : Int))))] (by kernel_rfl) ?_
  refine gl_split 35 (b := decide (((p.bytes.length : Nat) : Int) > (0 : Int))) rfl (fun hg7 => ?_) (fun hg7 => ?_)
  ·
    try simp only [decide_eq_true_eq] at hg7
    refine gl_ops 1 [(35, .bool true), (36, Pp b1 4)] (by kernel_rfl) ?_
    refine gl_q rfl rfl rfl (rd_loadK 0 (by kernel_rfl) hH rfl rfl rfl) ?_
    refine gl_q rfl rfl rfl (rd_len (e := 5) (by kernel_rfl) rfl) ?_
    refine gl_ops 3 [(2, .bool (decide (((p.bytes.length : Nat) : Int) ≤ (512 : Int))))] (by kernel_rfl) ?_
    refine gl_dn rfl ?_
    refine sw_ret ?_
    refine ret1 rfl rfl  ?_
    exact ⟨by unfold mayP; rw [if_neg (by omega), if_neg (by omega), if_neg (by omega), if_neg (by omega), if_pos (by omega)]; congr 1; rw [Bool.eq_iff_iff]; simp only [decide_eq_true_eq]; omega, (hH.sublist (List.nil_sublist _)).fresh⟩
  try simp only [decide_eq_false_iff_not, Int.not_lt, Int.not_le] at hg7
  refine gl_ops 6 [(2, .bool false)] (by kernel_rfl) ?_
  refine gl_dn rfl ?_
  refine sw_ret ?_
  refine ret1 rfl rfl  ?_
  exact ⟨by unfold mayP; rw [if_neg (by omega), if_neg (by omega), if_neg (by omega), if_neg (by omega), if_neg (by omega)], (hH.sublist (List.nil_sublist _)).fresh⟩
theorem Older_ct (a b c d : Int) (w : World) :
    Fun Tryz.prog 53 [.agg #[.int .i64 a, .int .i64 b], .agg #[.int .i64 c, .int .i64 d]] w fun v w' => v = .bool (olderW (a, b) (c, d)) ∧ Fresh w w' [] := by
  refine fun_of_sw Tryz.func53 rfl 24 rfl rfl ?_
  have hH := Hp.start w
  refine sw_sr ?_
  refine gl_st (st_boxH (cs := [.int .i64 a, .int .i64 b]) rfl rfl rfl rfl hH ?_)
  clear hH; intro b1 w2 hH
  refine gl_st (st_boxH (cs := [.int .i64 c, .int .i64 d]) rfl rfl rfl rfl hH ?_)
  clear hH; intro b3 w4 hH
  refine gl_ops 1 [(2, Pp b1 0), (3, Pp b3 0)] (by kernel_rfl) ?_
  refine gl_dn rfl ?_
  refine sw_sr ?_
  refine gl_ops 1 [(2, Pp b1 0), (3, Pp b3 0), (5, Pp b1 0)] (by kernel_rfl) ?_
  refine gl_q rfl rfl rfl (rd_loadK 0 (by kernel_rfl) hH rfl rfl rfl) ?_
  refine gl_ops 1 [(2, Pp b1 0), (3, Pp b3 0), (6, .int .i64 a), (7, Pp b3 0)] (by kernel_rfl) ?_
  refine gl_q rfl rfl rfl (rd_loadK 1 (by kernel_rfl) hH rfl rfl rfl) ?_
  refine gl_ops 2 [(2, Pp b1 0), (3, Pp b3 0), (10, .bool (decide ((a : Int) < (c : Int))))] (by kernel_rfl) ?_
  refine gl_split 10 (b := decide ((a : Int) < (c : Int))) rfl (fun hg1 => ?_) (fun hg1 => ?_)
  ·
    try simp only [decide_eq_true_eq] at hg1
    refine gl_ops 14 [(4, .bool true)] (by kernel_rfl) ?_
    refine gl_dn rfl ?_
    refine sw_ret ?_
    refine ret1 rfl rfl  ?_
    exact ⟨by unfold olderW; rw [show decide (a < c) = true from by simpa using hg1]; rfl, (hH.sublist (List.nil_sublist _)).fresh⟩
  try simp only [decide_eq_false_iff_not, Int.not_lt, Int.not_le] at hg1
  refine gl_ops 1 [(2, Pp b1 0), (3, Pp b3 0), (10, .bool false), (11, Pp b1 0)] (by kernel_rfl) ?_
  refine gl_q rfl rfl rfl (rd_loadK 0 (by kernel_rfl) hH rfl rfl rfl) ?_
  refine gl_ops 1 [(2, Pp b1 0), (3, Pp b3 0), (10, .bool false), (12, .int .i64 a), (13, Pp b3 0)] (by kernel_rfl) ?_
  refine gl_q rfl rfl rfl (rd_loadK 1 (by kernel_rfl) hH rfl rfl rfl) ?_
  refine gl_ops 2 [(2, Pp b1 0), (3, Pp b3 0), (10, .bool false), (16, .bool ((a : Int) == (c : Int)))] (by kernel_rfl) ?_
  refine gl_split 16 (b := (a : Int) == (c : Int)) rfl (fun hg2 => ?_) (fun hg2 => ?_)
  ·
    try simp only [beq_iff_eq] at hg2
    refine gl_ops 1 [(3, Pp b3 0), (10, .bool false), (16, .bool true), (17, Pp b1 1)] (by kernel_rfl) ?_
    refine gl_q rfl rfl rfl (rd_loadK 0 (by kernel_rfl) hH rfl rfl rfl) ?_
    refine gl_ops 1 [(10, .bool false), (16, .bool true), (18, .int .i64 b), (19, Pp b3 1)] (by kernel_rfl) ?_
    refine gl_q rfl rfl rfl (rd_loadK 1 (by kernel_rfl) hH rfl rfl rfl) ?_
    refine gl_ops 4 [(4, .bool (decide ((b : Int) < (d : Int))))] (by kernel_rfl) ?_
    refine gl_dn rfl ?_
    refine sw_ret ?_
    refine ret1 rfl rfl  ?_
    exact ⟨by unfold olderW; rw [show decide (a < c) = false from by simpa using hg1, show (a == c) = true from by simpa using hg2]; rfl, (hH.sublist (List.nil_sublist _)).fresh⟩
  try simp only [beq_eq_false_iff_ne, ne_eq] at hg2
  refine gl_ops 8 [(4, .bool false)] (by kernel_rfl) ?_
  refine gl_dn rfl ?_
  refine sw_ret ?_
  refine ret1 rfl rfl  ?_
  exact ⟨by unfold olderW; rw [show decide (a < c) = false from by simpa using hg1, show (a == c) = false from by simpa using hg2]; rfl, (hH.sublist (List.nil_sublist _)).fresh⟩
theorem NewInbox_ct (w : World) :
    Fun Tryz.prog 24 [] w fun v w' => ∃ xb mb, v = .pointer (some ⟨xb, 0, none⟩) ∧ Fresh w w' [.grp (ibxO xb 0 mb ⟨none, 0, []⟩ [])] := by
  refine fun_of_sw Tryz.func24 rfl 4 rfl rfl ?_
  have hH := Hp.start w
  refine sw_sr ?_
  refine gl_ops 1 [] (by kernel_rfl) ?_
  refine gl_dn rfl ?_
  refine sw_sr ?_
  refine gl_st (st_makeMap rfl rfl rfl (intK .i64) hH ?_)
  clear hH; intro m1 w2 hH
  refine gl_ops 1 [(2, .agg #[.pointer none, .int .i64 0, .map (some m1)])] (by kernel_rfl) ?_
  refine gl_st (st_boxH (cs := [.pointer none, .int .i64 0, .map (some m1)]) rfl rfl rfl rfl hH ?_)
  clear hH; intro b3 w4 hH
  refine gl_ops 1 [(0, Pp b3 0)] (by kernel_rfl) ?_
  refine gl_dn rfl ?_
  refine sw_ret ?_
  refine ret1 rfl rfl  ?_
  exact ⟨_, _, rfl, (hH.nogrp.close (r := [])).fresh⟩
/-- The box of the newest snapshot, if it is not the one that the call made. -/
def nbox (b nb : Nat) (p : Prt) : List Own := if nb = b then [] else [.blk nb 116 [.int .i64 p.term, .int .i64 p.idx]]
theorem nbox_own {w0 w : World} {z : Zone} {F : List Nat} {b nb : Nat} {p : Prt} {r : List Own} (hH : Hp w0 w z F (.grp (nbox b nb p) :: .blk b 116 [.int .i64 p.term, .int .i64 p.idx] :: r)) :
    Hp w0 w z F (.blk nb 116 [.int .i64 p.term, .int .i64 p.idx] :: r) := by
  have h := hH.open_
  unfold nbox at h
  by_cases hb : nb = b
  · rw [if_pos hb] at h
    subst hb
    exact h
  · rw [if_neg hb] at h
    exact h.sublist (.cons_cons _ (.cons _ (List.Sublist.refl _)))

theorem PutS_ct (xb nb mb : Nat) (tn ix : Int) (mn : Nat) (rs : List (Int × Value × List UInt8)) (l : List (Int × Value)) (p : Prt) (vb : Value) (w : World) (hM : Mine w [.grp (ibxO xb nb mb ⟨some (tn, ix), mn, rs⟩ l)]) (hb : RB (off w (blksOf [.grp (ibxO xb nb mb ⟨some (tn, ix), mn, rs⟩ l)])) vb p.bytes) (hp : p.I64) (hS : Ibx.Ok ⟨some (tn, ix), mn, rs⟩) (hl : mn ≠ 0 → l = kv rs) :
    Fun Tryz.prog 25 [.pointer (some ⟨xb, 0, none⟩), .agg #[.int .i64 p.idx, .int .i64 p.term, .int .i64 p.n, .int .i64 p.many, vb]] w fun v w' => ∃ nv nb' l' v1 v2,
      v = .tuple #[.agg #[.int .i64 (putI ⟨some (tn, ix), mn, rs⟩ p nv).2.1.idx, .int .i64 (putI ⟨some (tn, ix), mn, rs⟩ p nv).2.1.term, v1, v2], .bool (putI ⟨some (tn, ix), mn, rs⟩ p nv).2.2.1, errV (putI ⟨some (tn, ix), mn, rs⟩ p nv).2.2.2] ∧ ((putI ⟨some (tn, ix), mn, rs⟩ p nv).1.many ≠ 0 → l' = kv (putI ⟨some (tn, ix), mn, rs⟩ p nv).1.rs) ∧
      Turn w w' [.grp (ibxO xb nb mb ⟨some (tn, ix), mn, rs⟩ l)] [.grp (ibxO xb nb' mb (putI ⟨some (tn, ix), mn, rs⟩ p nv).1 l'), .row v1 5 1 (putI ⟨some (tn, ix), mn, rs⟩ p nv).2.1.conf.length (bv (putI ⟨some (tn, ix), mn, rs⟩ p nv).2.1.conf), .row v2 5 1 (putI ⟨some (tn, ix), mn, rs⟩ p nv).2.1.data.length (bv (putI ⟨some (tn, ix), mn, rs⟩ p nv).2.1.data)] := by
  obtain ⟨Ab, cb, rfl, hb1, hb2⟩ := hb.row.form
  have hp9 := hp
  obtain ⟨hp1, hp2, hp3, hp4⟩ := hp9
  have hmn4 := hS.many
  simp only at hmn4
  refine fun_of_sw Tryz.func25 rfl 143 rfl rfl ?_
  have hH : Hp w w (off w (blksOf [.grp (ibxO xb nb mb ⟨some (tn, ix), mn, rs⟩ l)])) (blksOf [.grp (ibxO xb nb mb ⟨some (tn, ix), mn, rs⟩ l)]) (ibxO xb nb mb ⟨some (tn, ix), mn, rs⟩ l ++ []) := (Hp.start_mine hM).open_
  replace hH : Hp w w _ _ [.kmap mb (intK .i64) l, .blk xb 113 [Pp nb 0, Ni mn, .map (some mb)], .grp (ibxOwn 5 rs), .blk nb 116 [.int .i64 tn, .int .i64 ix]] := hH
  refine sw_sr ?_
  refine gl_st (st_boxH (cs := [.int .i64 p.idx, .int .i64 p.term, .int .i64 p.n, .int .i64 p.many, .slice Ab p.bytes.length cb]) rfl rfl rfl rfl hH ?_)
  clear hH; intro b1 w2 hH
  refine gl_st (st_allocH rfl rfl rfl (cs := [.int .i64 0, .int .i64 0, .slice none 0 0, .slice none 0 0]) (by kernel_rfl) hH ?_)
  clear hH; intro b3 w4 hH
  refine gl_ops 2 [(0, Pp xb 0), (3, Pp b1 0), (4, Pp b3 0)] (by kernel_rfl) ?_
  refine gl_dn rfl ?_
  refine sw_seq ?_
  refine sw_sr ?_
  refine gl_q rfl rfl rfl (rd_loadKA (m := 5) 4 (by kernel_rfl) hH rfl rfl (by kernel_rfl) [.int .i64 p.idx, .int .i64 p.term, .int .i64 p.n, .int .i64 p.many, .slice Ab p.bytes.length cb] rfl rfl) ?_
  refine gl_st (st_call rfl rfl rfl (by kernel_rfl) rfl (May_ct p _ _ (hb.mono hH.zin) hp) ?_)
  rintro _ w5 ⟨rfl, hF6⟩
  replace hH := hH.call hF6; clear hF6
  refine gl_ops 1 [(0, Pp xb 0), (3, Pp b1 0), (4, Pp b3 0), (16, .bool (!(mayP p)))] (by kernel_rfl) ?_
  refine gl_dn rfl ?_
  refine sw_cond rfl rfl (fun hc1 => ?_) (fun hc1 => ?_)
  ·
    refine sw_cv 16 (.bool true) (by rw [hc1]) rfl ?_
    try simp only [Bool.not_eq_true'] at hc1
    refine sw_sr ?_
    refine gl_ops 2 [(4, Pp b3 0), (17, .agg #[.int .i64 0, .int .i64 0, .slice none 0 0, .slice none 0 0]), (18, .iface 37 (.int .i64 1))] (by kernel_rfl) ?_
    refine gl_st (st_storeKA (vs := [.int .i64 0, .int .i64 0, .slice none 0 0, .slice none 0 0]) 5 rfl rfl rfl hH rfl rfl (by kernel_rfl) (by kernel_rfl) rfl (by simp) [.int .i64 0, .int .i64 0, .slice none 0 0, .slice none 0 0] rfl ?_)
    clear hH; intro w7 hH
    refine gl_ops 2 [(4, Pp b3 0), (5, .bool false), (6, .iface 37 (.int .i64 1))] (by kernel_rfl) ?_
    refine gl_dn rfl ?_
    refine sw_ret ?_
    refine thR ?_
    refine retC3 rfl (RS.cellA hH 5 (by kernel_rfl) rfl rfl (by kernel_rfl) [.int .i64 0, .int .i64 0, .slice none 0 0, .slice none 0 0] rfl rfl) (RS.tmp rfl) (RS.tmp rfl) ?_
    replace hH := (hH.sublist (.cons_cons _ (.cons_cons _ (.cons_cons _ (.cons_cons _ (List.nil_sublist _))))))
    replace hH : Hp w w7 _ _ [.kmap mb (intK .i64) l, .blk xb 113 [Pp nb 0, Ni mn, .map (some mb)], .grp (ibxOwn 5 rs), .blk nb 116 [.int .i64 tn, .int .i64 ix]] := hH
    replace hH : Hp w w7 _ _ ([.kmap mb (intK .i64) l, .blk xb 113 [Pp nb 0, Ni mn, .map (some mb)], .grp (ibxOwn 5 rs), .blk nb 116 [.int .i64 tn, .int .i64 ix]] ++ []) := hH
    have hr := putI_no (S := ⟨some (tn, ix), mn, rs⟩) (p := p) (.slice none 0 0) hc1
    refine ⟨(Value.slice none 0 0), nb, l, .slice none 0 0, .slice none 0 0, ?_⟩
    rw [hr]
    exact ⟨rfl, hl, (((hH.close).nilRow 5 1).nilRow 5 1).turned⟩
  refine sw_cv 16 (.bool false) (by rw [hc1]) rfl ?_
  try simp only [Bool.not_eq_false'] at hc1
  obtain ⟨q1, q2, q3, q4, q5, q6⟩ := mayP_true hc1
  refine sw_skip ?_
  refine sw_next ?_
  refine sw_sr ?_
  refine gl_ops 1 [(0, Pp xb 0), (3, Pp b1 0), (4, Pp b3 0), (19, Pp b1 1)] (by kernel_rfl) ?_
  refine gl_q rfl rfl rfl (rd_loadK 4 (by kernel_rfl) hH rfl rfl rfl) ?_
  refine gl_ops 1 [(0, Pp xb 0), (3, Pp b1 0), (4, Pp b3 0), (20, .int .i64 p.term), (21, Pp b1 0)] (by kernel_rfl) ?_
  refine gl_q rfl rfl rfl (rd_loadK 4 (by kernel_rfl) hH rfl rfl rfl) ?_
  refine gl_ops 1 [(0, Pp xb 0), (3, Pp b1 0), (4, Pp b3 0), (23, .agg #[.int .i64 p.term, .int .i64 p.idx])] (by kernel_rfl) ?_
  refine gl_st (st_allocH rfl rfl rfl (cs := [.int .i64 0, .int .i64 0]) (by kernel_rfl) hH ?_)
  clear hH; intro b8 w9 hH
  replace hH : Hp w w9 _ _ [.kmap mb (intK .i64) l, .blk xb 113 [Pp nb 0, Ni mn, .map (some mb)], .grp (ibxOwn 5 rs), .blk nb 116 [.int .i64 tn, .int .i64 ix], .blk b1 63 [.int .i64 p.idx, .int .i64 p.term, .int .i64 p.n, .int .i64 p.many, .slice Ab p.bytes.length cb], .blk b3 24 [.int .i64 0, .int .i64 0, .slice none 0 0, .slice none 0 0], .blk b8 116 [.int .i64 0, .int .i64 0]] := hH
  refine gl_st (st_storeKA (vs := [.int .i64 p.term, .int .i64 p.idx]) 6 rfl rfl rfl hH rfl rfl (by kernel_rfl) (by kernel_rfl) rfl (by simp) [.int .i64 p.term, .int .i64 p.idx] rfl ?_)
  clear hH; intro w10 hH
  replace hH : Hp w w10 _ _ [.kmap mb (intK .i64) l, .blk xb 113 [Pp nb 0, Ni mn, .map (some mb)], .grp (ibxOwn 5 rs), .blk nb 116 [.int .i64 tn, .int .i64 ix], .blk b1 63 [.int .i64 p.idx, .int .i64 p.term, .int .i64 p.n, .int .i64 p.many, .slice Ab p.bytes.length cb], .blk b3 24 [.int .i64 0, .int .i64 0, .slice none 0 0, .slice none 0 0], .blk b8 116 [.int .i64 p.term, .int .i64 p.idx]] := hH
  refine gl_dn rfl ?_
  refine sw_cut (γ := Nat × List (Int × Value × List UInt8)) (fun (nb2, rs2) => [(0, Pp xb 0), (3, Pp b1 0), (4, Pp b3 0), (7, Pp b8 0)]) (fun (nb2, rs2) w_ => (baseI ⟨some (tn, ix), mn, rs⟩ p = some rs2) ∧ (rs2.length < p.many.toNat) ∧ (∀ r ∈ rs2, r.2.2.length ≤ 512) ∧ Hp w w_ (off w (blksOf [.grp (ibxO xb nb mb ⟨some (tn, ix), mn, rs⟩ l)])) (blksOf [.grp (ibxO xb nb mb ⟨some (tn, ix), mn, rs⟩ l)]) [.kmap mb (intK .i64) (kv rs2), .blk xb 113 [Pp nb2 0, Ni p.many.toNat, .map (some mb)], .grp (ibxOwn 5 rs2), .grp (nbox b8 nb2 p), .blk b1 63 [.int .i64 p.idx, .int .i64 p.term, .int .i64 p.n, .int .i64 p.many, .slice Ab p.bytes.length cb], .blk b3 24 [.int .i64 0, .int .i64 0, .slice none 0 0, .slice none 0 0], .blk b8 116 [.int .i64 p.term, .int .i64 p.idx]]) ?_ ?_
  ·
    refine sw_block ?_
    refine sw_seq ?_
    refine sw_sr ?_
    refine gl_ops 3 [(0, Pp xb 0), (3, Pp b1 0), (4, Pp b3 0), (7, Pp b8 0), (27, Pp xb 0)] (by kernel_rfl) ?_
    refine gl_q rfl rfl rfl (rd_loadK 1 (by kernel_rfl) hH rfl rfl rfl) ?_
    refine gl_ops 2 [(0, Pp xb 0), (3, Pp b1 0), (4, Pp b3 0), (7, Pp b8 0), (24, .bool false)] (by kernel_rfl) ?_
    refine gl_dn rfl ?_
    refine sw_false rfl rfl ?_
    refine sw_draw (by kernel_rfl) (fun w_ => Hp w w_ (off w (blksOf [.grp (ibxO xb nb mb ⟨some (tn, ix), mn, rs⟩ l)])) (blksOf [.grp (ibxO xb nb mb ⟨some (tn, ix), mn, rs⟩ l)]) [.kmap mb (intK .i64) l, .blk xb 113 [Pp nb 0, Ni mn, .map (some mb)], .grp (ibxOwn 5 rs), .blk nb 116 [.int .i64 tn, .int .i64 ix], .blk b1 63 [.int .i64 p.idx, .int .i64 p.term, .int .i64 p.n, .int .i64 p.many, .slice Ab p.bytes.length cb], .blk b3 24 [.int .i64 0, .int .i64 0, .slice none 0 0, .slice none 0 0], .blk b8 116 [.int .i64 p.term, .int .i64 p.idx]]) ?_
    replace hH := hH.drew
    generalize { w10 with drawn := w10.drawn + 1 } = w11 at hH ⊢
    have hS9 := hH.sublist (.cons_cons _ (.cons_cons _ (.cons_cons _ (.cons_cons _ (.cons_cons _ (.cons_cons _ (.cons_cons _ (List.nil_sublist _))))))))
    refine gd_pure 0 rfl (by kernel_rfl) (PQ.th (PQ.bk (PQ.th PQ.body))) hS9 rfl rfl (Pp xb 0) (by kernel_rfl) ?_
    refine gd_pure 1 rfl (by kernel_rfl) (PQ.th (PQ.bk (PQ.th PQ.body))) hS9 rfl rfl (Pp xb 0) (by kernel_rfl) ?_
    refine gd_pure 2 rfl (by kernel_rfl) (PQ.th (PQ.bk (PQ.th PQ.body))) hS9 rfl rfl (Pp xb 0) (by kernel_rfl) ?_
    refine gd_keep [(0, Pp xb 0), (3, Pp b1 0), (4, Pp b3 0), (7, Pp b8 0), (24, .bool false), (32, Pp xb 0)] (by kernel_rfl) ?_
    refine gd_q 3 rfl (by kernel_rfl) (PQ.th (PQ.bk (PQ.th PQ.body))) hS9 rfl rfl (fun w_ hS => (rd_loadK 1 (by kernel_rfl) hS rfl rfl rfl)) ?_
    refine gd_pure 4 rfl (by kernel_rfl) (PQ.th (PQ.bk (PQ.th PQ.body))) hS9 rfl rfl (Pp nb 0) (by kernel_rfl) ?_
    refine gd_q 5 rfl (by kernel_rfl) (PQ.th (PQ.bk (PQ.th PQ.body))) hS9 rfl rfl (fun w_ hS => (rd_loadKA (m := 2) 3 (by kernel_rfl) hS rfl rfl (by kernel_rfl) [.int .i64 tn, .int .i64 ix] rfl rfl)) ?_
    refine gd_keep [(0, Pp xb 0), (3, Pp b1 0), (4, Pp b3 0), (7, Pp b8 0), (24, .bool false), (35, .agg #[.int .i64 tn, .int .i64 ix])] (by kernel_rfl) ?_
    refine gd_q 6 rfl (by kernel_rfl) (PQ.th (PQ.bk (PQ.th PQ.body))) hS9 rfl rfl (fun w_ hS => (rd_loadKA (m := 2) 6 (by kernel_rfl) hS rfl rfl (by kernel_rfl) [.int .i64 p.term, .int .i64 p.idx] rfl rfl)) ?_
    refine gd_st 7 (by kernel_rfl) (st_call rfl rfl rfl (by kernel_rfl) rfl (Older_ct _ _ _ _ _) ?_)
    rintro _ w12 ⟨rfl, hF13⟩
    replace hH := hH.call hF13; clear hF13
    replace hH : Hp w w12 _ _ [.kmap mb (intK .i64) l, .blk xb 113 [Pp nb 0, Ni mn, .map (some mb)], .grp (ibxOwn 5 rs), .blk nb 116 [.int .i64 tn, .int .i64 ix], .blk b1 63 [.int .i64 p.idx, .int .i64 p.term, .int .i64 p.n, .int .i64 p.many, .slice Ab p.bytes.length cb], .blk b3 24 [.int .i64 0, .int .i64 0, .slice none 0 0, .slice none 0 0], .blk b8 116 [.int .i64 p.term, .int .i64 p.idx]] := hH
    replace hS9 := hH.sublist (.cons_cons _ (.cons_cons _ (.cons_cons _ (.cons_cons _ (.cons_cons _ (.cons_cons _ (.cons_cons _ (List.nil_sublist _))))))))
    refine ⟨hS9, ?_⟩
    refine gd_keep [(0, Pp xb 0), (3, Pp b1 0), (4, Pp b3 0), (7, Pp b8 0), (24, .bool false), (37, .bool (olderW (tn, ix) (p.term, p.idx)))] (by kernel_rfl) ?_
    refine gd_pure 8 rfl (by kernel_rfl) (PQ.th (PQ.bk (PQ.th PQ.body))) hS9 rfl rfl (.bool (olderW (tn, ix) (p.term, p.idx))) (by kernel_rfl) ?_
    refine gd_done (by kernel_rfl) ?_
    refine at_sub [(0, Pp xb 0), (3, Pp b1 0), (4, Pp b3 0), (7, Pp b8 0), (24, .bool (olderW (tn, ix) (p.term, p.idx)))] (Sub.of_eq (by kernel_rfl)) ?_
    refine sw_next ?_
    refine sw_cond rfl rfl (fun hc3 => ?_) (fun hc3 => ?_)
    ·
      refine sw_cv 24 (.bool true) (by rw [hc3]) rfl ?_
      have hold := hc3
      refine sw_seq ?_
      refine sw_draw (by kernel_rfl) (fun w_ => Hp w w_ (off w (blksOf [.grp (ibxO xb nb mb ⟨some (tn, ix), mn, rs⟩ l)])) (blksOf [.grp (ibxO xb nb mb ⟨some (tn, ix), mn, rs⟩ l)]) [.kmap mb (intK .i64) l, .grp (ibxOwn 5 rs), .blk nb 116 [.int .i64 tn, .int .i64 ix], .blk b1 63 [.int .i64 p.idx, .int .i64 p.term, .int .i64 p.n, .int .i64 p.many, .slice Ab p.bytes.length cb], .blk b3 24 [.int .i64 0, .int .i64 0, .slice none 0 0, .slice none 0 0], .blk b8 116 [.int .i64 p.term, .int .i64 p.idx]]) ?_
      replace hH := hH.drew
      generalize { w12 with drawn := w12.drawn + 1 } = w14 at hH ⊢
      have hS9 := hH.sublist (.cons_cons _ (.cons _ (.cons_cons _ (.cons_cons _ (.cons_cons _ (.cons_cons _ (.cons_cons _ (List.nil_sublist _))))))))
      refine gd_pure 0 rfl (by kernel_rfl) (PQ.th (PQ.bk (PQ.th PQ.body))) hS9 rfl rfl (Pp xb 0) (by kernel_rfl) ?_
      refine gd_pure 1 rfl (by kernel_rfl) (PQ.th (PQ.bk (PQ.th PQ.body))) hS9 rfl rfl (Pp xb 0) (by kernel_rfl) ?_
      refine gd_pure 2 rfl (by kernel_rfl) (PQ.th (PQ.bk (PQ.th PQ.body))) hS9 rfl rfl (Pp b1 3) (by kernel_rfl) ?_
      refine gd_keep [(0, Pp xb 0), (3, Pp b1 0), (4, Pp b3 0), (7, Pp b8 0), (38, Pp xb 0), (39, Pp xb 0), (40, Pp b1 3)] (by kernel_rfl) ?_
      refine gd_q 3 rfl (by kernel_rfl) (PQ.th (PQ.bk (PQ.th PQ.body))) hS9 rfl rfl (fun w_ hS => (rd_loadK 3 (by kernel_rfl) hS rfl rfl rfl)) ?_
      refine gd_pure 4 rfl (by kernel_rfl) (PQ.th (PQ.bk (PQ.th PQ.body))) hS9 rfl rfl (Pp xb 0) (by kernel_rfl) ?_
      refine gd_pure 5 rfl (by kernel_rfl) (PQ.th (PQ.bk (PQ.th PQ.body))) hS9 rfl rfl (Pp xb 0) (by kernel_rfl) ?_
      refine gd_keep [(0, Pp xb 0), (3, Pp b1 0), (4, Pp b3 0), (7, Pp b8 0), (39, Pp xb 0), (41, .int .i64 p.many), (43, Pp xb 0)] (by kernel_rfl) ?_
      refine gd_st 6 (by kernel_rfl) (st_storeK (v := Pp b8 0) 1 rfl rfl rfl hH rfl rfl rfl (by kernel_rfl) rfl (by simp) ?_)
      clear hH; intro w15 hH
      replace hH : Hp w w15 _ _ [.kmap mb (intK .i64) l, .blk xb 113 [Pp b8 0, Ni mn, .map (some mb)], .grp (ibxOwn 5 rs), .blk nb 116 [.int .i64 tn, .int .i64 ix], .blk b1 63 [.int .i64 p.idx, .int .i64 p.term, .int .i64 p.n, .int .i64 p.many, .slice Ab p.bytes.length cb], .blk b3 24 [.int .i64 0, .int .i64 0, .slice none 0 0, .slice none 0 0], .blk b8 116 [.int .i64 p.term, .int .i64 p.idx]] := hH
      replace hS9 := hH.sublist (.cons_cons _ (.cons _ (.cons_cons _ (.cons_cons _ (.cons_cons _ (.cons_cons _ (.cons_cons _ (List.nil_sublist _))))))))
      refine ⟨hS9, ?_⟩
      refine gd_keep [(0, Pp xb 0), (3, Pp b1 0), (4, Pp b3 0), (7, Pp b8 0), (39, Pp xb 0), (41, .int .i64 p.many)] (by kernel_rfl) ?_
      refine gd_pure 7 rfl (by kernel_rfl) (PQ.th (PQ.bk (PQ.th PQ.body))) hS9 rfl rfl (Pp xb 0) (by kernel_rfl) ?_
      refine gd_pure 8 rfl (by kernel_rfl) (PQ.th (PQ.bk (PQ.th PQ.body))) hS9 rfl rfl (Pp xb 1) (by kernel_rfl) ?_
      refine gd_st 9 (by kernel_rfl) (st_storeK (v := .int .i64 p.many) 1 rfl rfl rfl hH rfl rfl rfl (by kernel_rfl) rfl (by simp) ?_)
      clear hH; intro w16 hH
      replace hH : Hp w w16 _ _ [.kmap mb (intK .i64) l, .blk xb 113 [Pp b8 0, .int .i64 p.many, .map (some mb)], .grp (ibxOwn 5 rs), .blk nb 116 [.int .i64 tn, .int .i64 ix], .blk b1 63 [.int .i64 p.idx, .int .i64 p.term, .int .i64 p.n, .int .i64 p.many, .slice Ab p.bytes.length cb], .blk b3 24 [.int .i64 0, .int .i64 0, .slice none 0 0, .slice none 0 0], .blk b8 116 [.int .i64 p.term, .int .i64 p.idx]] := hH
      replace hS9 := hH.sublist (.cons_cons _ (.cons _ (.cons_cons _ (.cons_cons _ (.cons_cons _ (.cons_cons _ (.cons_cons _ (List.nil_sublist _))))))))
      refine ⟨hS9, ?_⟩
      refine gd_keep [(0, Pp xb 0), (3, Pp b1 0), (4, Pp b3 0), (7, Pp b8 0)] (by kernel_rfl) ?_
      refine gd_done (by kernel_rfl) ?_
      refine at_sub [(0, Pp xb 0), (3, Pp b1 0), (4, Pp b3 0), (7, Pp b8 0)] (Sub.of_eq (by kernel_rfl)) ?_
      refine sw_next ?_
      refine sw_region ?_
      refine gl_ops 3 [(0, Pp xb 0), (3, Pp b1 0), (4, Pp b3 0), (7, Pp b8 0), (48, Pp xb 2)] (by kernel_rfl) ?_
      refine gl_q rfl rfl rfl (rd_loadK 1 (by kernel_rfl) hH rfl rfl rfl) ?_
      refine gl_st (st_mapclear (kt := 3) (e := 22) 0 rfl rfl rfl (by kernel_rfl) hH rfl rfl ?_)
      clear hH; intro w17 hH
      replace hH : Hp w w17 _ _ [.kmap mb (intK .i64) [], .blk xb 113 [Pp b8 0, .int .i64 p.many, .map (some mb)], .grp (ibxOwn 5 rs), .blk nb 116 [.int .i64 tn, .int .i64 ix], .blk b1 63 [.int .i64 p.idx, .int .i64 p.term, .int .i64 p.n, .int .i64 p.many, .slice Ab p.bytes.length cb], .blk b3 24 [.int .i64 0, .int .i64 0, .slice none 0 0, .slice none 0 0], .blk b8 116 [.int .i64 p.term, .int .i64 p.idx]] := hH
      refine gl_done rfl ?_
      refine bkN ?_
      refine cut_end (b8, []) (Sub.of_eq (by kernel_rfl)) ?_
      replace hH := hH.blk_eq 1 (cs' := [.pointer (some ⟨b8, 0, none⟩), .int .i64 ((p.many.toNat : Nat) : Int), .map (some mb)]) rfl (by rw [Int.toNat_of_nonneg (by omega)] <;> rfl)
      replace hH := (hH.sublist (.cons_cons _ (.cons_cons _ (.cons _ (.cons _ (.cons_cons _ (.cons_cons _ (.cons_cons _ (List.nil_sublist _)))))))))
      replace hH : Hp w w17 _ _ [.kmap mb (intK .i64) [], .blk xb 113 [Pp b8 0, Ni p.many.toNat, .map (some mb)], .blk b1 63 [.int .i64 p.idx, .int .i64 p.term, .int .i64 p.n, .int .i64 p.many, .slice Ab p.bytes.length cb], .blk b3 24 [.int .i64 0, .int .i64 0, .slice none 0 0, .slice none 0 0], .blk b8 116 [.int .i64 p.term, .int .i64 p.idx]] := hH
      replace hH := hH.nogrp
      replace hH := hH.nogrp
      replace hH := hH.pick [0, 1, 5, 6, 2, 3, 4] (by kernel_rfl) (os' := [.kmap mb (intK .i64) [], .blk xb 113 [Pp b8 0, Ni p.many.toNat, .map (some mb)], .grp [], .grp [], .blk b1 63 [.int .i64 p.idx, .int .i64 p.term, .int .i64 p.n, .int .i64 p.many, .slice Ab p.bytes.length cb], .blk b3 24 [.int .i64 0, .int .i64 0, .slice none 0 0, .slice none 0 0], .blk b8 116 [.int .i64 p.term, .int .i64 p.idx]]) (by kernel_rfl)
      exact ⟨by unfold baseI; simp only; rw [hold]; rfl, by simp; omega, by simp, hH.cast (by simp [nbox, ibxOwn, kv])⟩
    refine sw_cv 24 (.bool false) (by rw [hc3]) rfl ?_
    have hold := hc3
    refine sw_seq ?_
    refine sw_seq ?_
    refine sw_draw (by kernel_rfl) (fun w_ => Hp w w_ (off w (blksOf [.grp (ibxO xb nb mb ⟨some (tn, ix), mn, rs⟩ l)])) (blksOf [.grp (ibxO xb nb mb ⟨some (tn, ix), mn, rs⟩ l)]) [.kmap mb (intK .i64) l, .blk xb 113 [Pp nb 0, Ni mn, .map (some mb)], .grp (ibxOwn 5 rs), .blk nb 116 [.int .i64 tn, .int .i64 ix], .blk b1 63 [.int .i64 p.idx, .int .i64 p.term, .int .i64 p.n, .int .i64 p.many, .slice Ab p.bytes.length cb], .blk b3 24 [.int .i64 0, .int .i64 0, .slice none 0 0, .slice none 0 0], .blk b8 116 [.int .i64 p.term, .int .i64 p.idx]]) ?_
    replace hH := hH.drew
    generalize { w12 with drawn := w12.drawn + 1 } = w18 at hH ⊢
    have hS9 := hH.sublist (.cons_cons _ (.cons_cons _ (.cons_cons _ (.cons_cons _ (.cons_cons _ (.cons_cons _ (.cons_cons _ (List.nil_sublist _))))))))
    refine gd_pure 0 rfl (by kernel_rfl) (PQ.th (PQ.th (PQ.bk (PQ.th PQ.body)))) hS9 rfl rfl (Pp xb 0) (by kernel_rfl) ?_
    refine gd_pure 1 rfl (by kernel_rfl) (PQ.th (PQ.th (PQ.bk (PQ.th PQ.body)))) hS9 rfl rfl (Pp xb 0) (by kernel_rfl) ?_
    refine gd_pure 2 rfl (by kernel_rfl) (PQ.th (PQ.th (PQ.bk (PQ.th PQ.body)))) hS9 rfl rfl (Pp xb 0) (by kernel_rfl) ?_
    refine gd_keep [(0, Pp xb 0), (3, Pp b1 0), (4, Pp b3 0), (7, Pp b8 0), (53, Pp xb 0)] (by kernel_rfl) ?_
    refine gd_q 3 rfl (by kernel_rfl) (PQ.th (PQ.th (PQ.bk (PQ.th PQ.body)))) hS9 rfl rfl (fun w_ hS => (rd_loadK 1 (by kernel_rfl) hS rfl rfl rfl)) ?_
    refine gd_pure 4 rfl (by kernel_rfl) (PQ.th (PQ.th (PQ.bk (PQ.th PQ.body)))) hS9 rfl rfl (Pp nb 0) (by kernel_rfl) ?_
    refine gd_q 5 rfl (by kernel_rfl) (PQ.th (PQ.th (PQ.bk (PQ.th PQ.body)))) hS9 rfl rfl (fun w_ hS => (rd_loadKA (m := 2) 3 (by kernel_rfl) hS rfl rfl (by kernel_rfl) [.int .i64 tn, .int .i64 ix] rfl rfl)) ?_
    refine gd_keep [(0, Pp xb 0), (3, Pp b1 0), (4, Pp b3 0), (7, Pp b8 0), (56, .agg #[.int .i64 tn, .int .i64 ix])] (by kernel_rfl) ?_
    refine gd_q 6 rfl (by kernel_rfl) (PQ.th (PQ.th (PQ.bk (PQ.th PQ.body)))) hS9 rfl rfl (fun w_ hS => (rd_loadKA (m := 2) 6 (by kernel_rfl) hS rfl rfl (by kernel_rfl) [.int .i64 p.term, .int .i64 p.idx] rfl rfl)) ?_
    refine gd_q 7 rfl (by kernel_rfl) (PQ.th (PQ.th (PQ.bk (PQ.th PQ.body)))) hS9 rfl rfl (fun w_ hS => (rd_pair_neq (k0 := .i64) (k1 := .i64) 3 3 (by kernel_rfl) (by kernel_rfl) (by kernel_rfl) (by kernel_rfl) (by kernel_rfl) (by kernel_rfl) (by kernel_rfl) (by kernel_rfl) rfl rfl)) ?_
    refine gd_pure 8 rfl (by kernel_rfl) (PQ.th (PQ.th (PQ.bk (PQ.th PQ.body)))) hS9 rfl rfl (.bool (!((tn : Int) == p.term && (ix : Int) == p.idx))) (by kernel_rfl) ?_
    refine gd_keep [(0, Pp xb 0), (3, Pp b1 0), (4, Pp b3 0), (7, Pp b8 0), (50, .bool (!((tn : Int) == p.term && (ix : Int) == p.idx)))] (by kernel_rfl) ?_
    refine gd_done (by kernel_rfl) ?_
    refine at_sub [(0, Pp xb 0), (3, Pp b1 0), (4, Pp b3 0), (7, Pp b8 0), (50, .bool (!((tn : Int) == p.term && (ix : Int) == p.idx)))] (Sub.of_eq (by kernel_rfl)) ?_
    refine sw_next ?_
    refine sw_cond rfl rfl (fun hc4 => ?_) (fun hc4 => ?_)
    ·
      refine sw_cv 50 (.bool true) (by rw [hc4]) rfl ?_
      try simp only [Bool.not_eq_true', beq_eq_false_iff_ne, ne_eq] at hc4
      have hne : ¬ (tn = p.term ∧ ix = p.idx) := by simpa using hc4
      refine sw_skip ?_
      refine sw_next ?_
      refine sw_true rfl rfl ?_
      refine sw_sr ?_
      refine gl_ops 2 [(4, Pp b3 0), (66, .agg #[.int .i64 0, .int .i64 0, .slice none 0 0, .slice none 0 0]), (67, .iface 37 (.int .i64 91))] (by kernel_rfl) ?_
      refine gl_st (st_storeKA (vs := [.int .i64 0, .int .i64 0, .slice none 0 0, .slice none 0 0]) 5 rfl rfl rfl hH rfl rfl (by kernel_rfl) (by kernel_rfl) rfl (by simp) [.int .i64 0, .int .i64 0, .slice none 0 0, .slice none 0 0] rfl ?_)
      clear hH; intro w19 hH
      replace hH : Hp w w19 _ _ [.kmap mb (intK .i64) l, .blk xb 113 [Pp nb 0, Ni mn, .map (some mb)], .grp (ibxOwn 5 rs), .blk nb 116 [.int .i64 tn, .int .i64 ix], .blk b1 63 [.int .i64 p.idx, .int .i64 p.term, .int .i64 p.n, .int .i64 p.many, .slice Ab p.bytes.length cb], .blk b3 24 [.int .i64 0, .int .i64 0, .slice none 0 0, .slice none 0 0], .blk b8 116 [.int .i64 p.term, .int .i64 p.idx]] := hH
      refine gl_ops 2 [(4, Pp b3 0), (5, .bool false), (6, .iface 37 (.int .i64 91))] (by kernel_rfl) ?_
      refine gl_dn rfl ?_
      refine sw_ret ?_
      refine bkR ?_
      refine thR ?_
      refine retC3 rfl (RS.cellA hH 5 (by kernel_rfl) rfl rfl (by kernel_rfl) [.int .i64 0, .int .i64 0, .slice none 0 0, .slice none 0 0] rfl rfl) (RS.tmp rfl) (RS.tmp rfl) ?_
      replace hH := (hH.sublist (.cons_cons _ (.cons_cons _ (.cons_cons _ (.cons_cons _ (List.nil_sublist _))))))
      replace hH : Hp w w19 _ _ [.kmap mb (intK .i64) l, .blk xb 113 [Pp nb 0, Ni mn, .map (some mb)], .grp (ibxOwn 5 rs), .blk nb 116 [.int .i64 tn, .int .i64 ix]] := hH
      replace hH : Hp w w19 _ _ ([.kmap mb (intK .i64) l, .blk xb 113 [Pp nb 0, Ni mn, .map (some mb)], .grp (ibxOwn 5 rs), .blk nb 116 [.int .i64 tn, .int .i64 ix]] ++ []) := hH
      have hr := putI_ref (S := ⟨some (tn, ix), mn, rs⟩) (p := p) (.slice none 0 0) hc1 (by unfold baseI; simp only; rw [hold, if_neg (by simp), if_neg (fun h => hne ⟨congrArg Prod.fst h.1, congrArg Prod.snd h.1⟩)])
      refine ⟨(Value.slice none 0 0), nb, l, .slice none 0 0, .slice none 0 0, ?_⟩
      rw [hr]
      exact ⟨rfl, hl, (((hH.close).nilRow 5 1).nilRow 5 1).turned⟩
    refine sw_cv 50 (.bool false) (by rw [hc4]) rfl ?_
    try simp only [Bool.not_eq_false', beq_iff_eq] at hc4
    obtain ⟨hw1, hw2⟩ : tn = p.term ∧ ix = p.idx := by simpa using hc4
    refine sw_draw (by kernel_rfl) (fun w_ => Hp w w_ (off w (blksOf [.grp (ibxO xb nb mb ⟨some (tn, ix), mn, rs⟩ l)])) (blksOf [.grp (ibxO xb nb mb ⟨some (tn, ix), mn, rs⟩ l)]) [.kmap mb (intK .i64) l, .blk xb 113 [Pp nb 0, Ni mn, .map (some mb)], .grp (ibxOwn 5 rs), .blk nb 116 [.int .i64 tn, .int .i64 ix], .blk b1 63 [.int .i64 p.idx, .int .i64 p.term, .int .i64 p.n, .int .i64 p.many, .slice Ab p.bytes.length cb], .blk b3 24 [.int .i64 0, .int .i64 0, .slice none 0 0, .slice none 0 0], .blk b8 116 [.int .i64 p.term, .int .i64 p.idx]]) ?_
    replace hH := hH.drew
    generalize { w18 with drawn := w18.drawn + 1 } = w20 at hH ⊢
    have hS9 := hH.sublist (.cons_cons _ (.cons_cons _ (.cons_cons _ (.cons_cons _ (.cons_cons _ (.cons_cons _ (.cons_cons _ (List.nil_sublist _))))))))
    refine gd_pure 0 rfl (by kernel_rfl) (PQ.th (PQ.bk (PQ.th PQ.body))) hS9 rfl rfl (Pp xb 0) (by kernel_rfl) ?_
    refine gd_pure 1 rfl (by kernel_rfl) (PQ.th (PQ.bk (PQ.th PQ.body))) hS9 rfl rfl (Pp xb 0) (by kernel_rfl) ?_
    refine gd_pure 2 rfl (by kernel_rfl) (PQ.th (PQ.bk (PQ.th PQ.body))) hS9 rfl rfl (Pp xb 1) (by kernel_rfl) ?_
    refine gd_keep [(0, Pp xb 0), (3, Pp b1 0), (4, Pp b3 0), (7, Pp b8 0), (50, .bool false), (61, Pp xb 1)] (by kernel_rfl) ?_
    refine gd_q 3 rfl (by kernel_rfl) (PQ.th (PQ.bk (PQ.th PQ.body))) hS9 rfl rfl (fun w_ hS => (rd_loadK 1 (by kernel_rfl) hS rfl rfl rfl)) ?_
    refine gd_pure 4 rfl (by kernel_rfl) (PQ.th (PQ.bk (PQ.th PQ.body))) hS9 rfl rfl (Pp b1 3) (by kernel_rfl) ?_
    refine gd_q 5 rfl (by kernel_rfl) (PQ.th (PQ.bk (PQ.th PQ.body))) hS9 rfl rfl (fun w_ hS => (rd_loadK 4 (by kernel_rfl) hS rfl rfl rfl)) ?_
    refine gd_keep [(0, Pp xb 0), (3, Pp b1 0), (4, Pp b3 0), (7, Pp b8 0), (50, .bool false), (62, Ni mn), (64, .int .i64 p.many)] (by kernel_rfl) ?_
    refine gd_pure 6 rfl (by kernel_rfl) (PQ.th (PQ.bk (PQ.th PQ.body))) hS9 rfl rfl (.bool (((mn : Nat) : Int) != (p.many : Int))) (by kernel_rfl) ?_
    refine gd_pure 7 rfl (by kernel_rfl) (PQ.th (PQ.bk (PQ.th PQ.body))) hS9 rfl rfl (.bool (((mn : Nat) : Int) != (p.many : Int))) (by kernel_rfl) ?_
    refine gd_done (by kernel_rfl) ?_
    refine at_sub [(0, Pp xb 0), (3, Pp b1 0), (4, Pp b3 0), (7, Pp b8 0), (50, .bool (((mn : Nat) : Int) != (p.many : Int)))] (Sub.of_eq (by kernel_rfl)) ?_
    refine sw_next ?_
    refine sw_cond rfl rfl (fun hc6 => ?_) (fun hc6 => ?_)
    ·
      refine sw_cv 50 (.bool true) (by rw [hc6]) rfl ?_
      try simp only [bne_iff_ne, ne_eq] at hc6
      have hnm : ¬ ((mn : Nat) : Int) = p.many := hc6
      refine sw_sr ?_
      refine gl_ops 2 [(4, Pp b3 0), (66, .agg #[.int .i64 0, .int .i64 0, .slice none 0 0, .slice none 0 0]), (67, .iface 37 (.int .i64 91))] (by kernel_rfl) ?_
      refine gl_st (st_storeKA (vs := [.int .i64 0, .int .i64 0, .slice none 0 0, .slice none 0 0]) 5 rfl rfl rfl hH rfl rfl (by kernel_rfl) (by kernel_rfl) rfl (by simp) [.int .i64 0, .int .i64 0, .slice none 0 0, .slice none 0 0] rfl ?_)
      clear hH; intro w21 hH
      replace hH : Hp w w21 _ _ [.kmap mb (intK .i64) l, .blk xb 113 [Pp nb 0, Ni mn, .map (some mb)], .grp (ibxOwn 5 rs), .blk nb 116 [.int .i64 tn, .int .i64 ix], .blk b1 63 [.int .i64 p.idx, .int .i64 p.term, .int .i64 p.n, .int .i64 p.many, .slice Ab p.bytes.length cb], .blk b3 24 [.int .i64 0, .int .i64 0, .slice none 0 0, .slice none 0 0], .blk b8 116 [.int .i64 p.term, .int .i64 p.idx]] := hH
      refine gl_ops 2 [(4, Pp b3 0), (5, .bool false), (6, .iface 37 (.int .i64 91))] (by kernel_rfl) ?_
      refine gl_dn rfl ?_
      refine sw_ret ?_
      refine bkR ?_
      refine thR ?_
      refine retC3 rfl (RS.cellA hH 5 (by kernel_rfl) rfl rfl (by kernel_rfl) [.int .i64 0, .int .i64 0, .slice none 0 0, .slice none 0 0] rfl rfl) (RS.tmp rfl) (RS.tmp rfl) ?_
      replace hH := (hH.sublist (.cons_cons _ (.cons_cons _ (.cons_cons _ (.cons_cons _ (List.nil_sublist _))))))
      replace hH : Hp w w21 _ _ [.kmap mb (intK .i64) l, .blk xb 113 [Pp nb 0, Ni mn, .map (some mb)], .grp (ibxOwn 5 rs), .blk nb 116 [.int .i64 tn, .int .i64 ix]] := hH
      replace hH : Hp w w21 _ _ ([.kmap mb (intK .i64) l, .blk xb 113 [Pp nb 0, Ni mn, .map (some mb)], .grp (ibxOwn 5 rs), .blk nb 116 [.int .i64 tn, .int .i64 ix]] ++ []) := hH
      have hr := putI_ref (S := ⟨some (tn, ix), mn, rs⟩) (p := p) (.slice none 0 0) hc1 (by unfold baseI; simp only; rw [hold, if_neg (by simp), if_neg (fun h => hnm h.2)])
      refine ⟨(Value.slice none 0 0), nb, l, .slice none 0 0, .slice none 0 0, ?_⟩
      rw [hr]
      exact ⟨rfl, hl, (((hH.close).nilRow 5 1).nilRow 5 1).turned⟩
    refine sw_cv 50 (.bool false) (by rw [hc6]) rfl ?_
    try simp only [bne_eq_false_iff_eq] at hc6
    have hmm : ((mn : Nat) : Int) = p.many := hc6
    refine sw_skip ?_
    refine bkN ?_
    refine cut_end (nb, rs) (Sub.of_eq (by kernel_rfl)) ?_
    replace hH := hH.blk_eq 1 (cs' := [.pointer (some ⟨nb, 0, none⟩), .int .i64 ((p.many.toNat : Nat) : Int), .map (some mb)]) rfl (by rw [show mn = p.many.toNat by omega] <;> rfl)
    have hnb : nb ≠ b8 := hH.apart_blk 3 6 (by decide) rfl rfl
    have hmn : mn ≠ 0 := by omega
    have hfew := hS.few.resolve_left hmn
    simp only at hfew
    have hlk := hl hmn
    replace hH := hH.blk_eq 3 (cs' := [.int .i64 p.term, .int .i64 p.idx]) rfl (by rw [hw1, hw2] <;> rfl)
    replace hH := hH.pick [3, 0, 1, 2, 4, 5, 6] (by kernel_rfl) (os' := [.blk nb 116 [.int .i64 p.term, .int .i64 p.idx], .kmap mb (intK .i64) l, .blk xb 113 [Pp nb 0, Ni p.many.toNat, .map (some mb)], .grp (ibxOwn 5 rs), .blk b1 63 [.int .i64 p.idx, .int .i64 p.term, .int .i64 p.n, .int .i64 p.many, .slice Ab p.bytes.length cb], .blk b3 24 [.int .i64 0, .int .i64 0, .slice none 0 0, .slice none 0 0], .blk b8 116 [.int .i64 p.term, .int .i64 p.idx]]) (by kernel_rfl)
    replace hH := hH.close (l := [_])
    replace hH := hH.pick [1, 2, 3, 0, 4, 5, 6] (by kernel_rfl) (os' := [.kmap mb (intK .i64) l, .blk xb 113 [Pp nb 0, Ni p.many.toNat, .map (some mb)], .grp (ibxOwn 5 rs), .grp [.blk nb 116 [.int .i64 p.term, .int .i64 p.idx]], .blk b1 63 [.int .i64 p.idx, .int .i64 p.term, .int .i64 p.n, .int .i64 p.many, .slice Ab p.bytes.length cb], .blk b3 24 [.int .i64 0, .int .i64 0, .slice none 0 0, .slice none 0 0], .blk b8 116 [.int .i64 p.term, .int .i64 p.idx]]) (by kernel_rfl)
    exact ⟨by unfold baseI; simp only; rw [hold, if_neg (by simp), if_pos ⟨by rw [hw1, hw2], by omega⟩], by omega, hS.short, hH.cast (by rw [nbox, if_neg hnb, hlk])⟩
  clear hH
  rintro ⟨nb2, rs2⟩ w22 ⟨hbase, hfew2, hsh2, hH⟩
  refine sw_keep [(0, Pp xb 0), (3, Pp b1 0), (4, Pp b3 0), (7, Pp b8 0)] (by kernel_rfl) ?_
  refine sw_cut (γ := Value) (fun nv => [(0, Pp xb 0), (4, Pp b3 0), (7, Pp b8 0)]) (fun nv w_ => Hp w w_ (off w (blksOf [.grp (ibxO xb nb mb ⟨some (tn, ix), mn, rs⟩ l)])) (blksOf [.grp (ibxO xb nb mb ⟨some (tn, ix), mn, rs⟩ l)]) [.kmap mb (intK .i64) (kv (withP rs2 p nv)), .blk xb 113 [Pp nb2 0, Ni p.many.toNat, .map (some mb)], .grp (ibxOwn 5 (withP rs2 p nv)), .grp (nbox b8 nb2 p), .blk b1 63 [.int .i64 p.idx, .int .i64 p.term, .int .i64 p.n, .int .i64 p.many, .slice Ab p.bytes.length cb], .blk b3 24 [.int .i64 0, .int .i64 0, .slice none 0 0, .slice none 0 0], .blk b8 116 [.int .i64 p.term, .int .i64 p.idx]]) ?_ ?_
  ·
    refine sw_seq ?_
    refine sw_draw (by kernel_rfl) (fun w_ => Hp w w_ (off w (blksOf [.grp (ibxO xb nb mb ⟨some (tn, ix), mn, rs⟩ l)])) (blksOf [.grp (ibxO xb nb mb ⟨some (tn, ix), mn, rs⟩ l)]) [.kmap mb (intK .i64) (kv rs2), .blk xb 113 [Pp nb2 0, Ni p.many.toNat, .map (some mb)], .grp (ibxOwn 5 rs2), .grp (nbox b8 nb2 p), .blk b1 63 [.int .i64 p.idx, .int .i64 p.term, .int .i64 p.n, .int .i64 p.many, .slice Ab p.bytes.length cb], .blk b3 24 [.int .i64 0, .int .i64 0, .slice none 0 0, .slice none 0 0], .blk b8 116 [.int .i64 p.term, .int .i64 p.idx]]) ?_
    replace hH := hH.drew
    generalize { w22 with drawn := w22.drawn + 1 } = w23 at hH ⊢
    have hS9 := hH.sublist (.cons_cons _ (.cons_cons _ (.cons_cons _ (.cons_cons _ (.cons_cons _ (.cons_cons _ (.cons_cons _ (List.nil_sublist _))))))))
    refine gd_pure 0 rfl (by kernel_rfl) (PQ.th (PQ.th PQ.body)) hS9 rfl rfl (Pp xb 0) (by kernel_rfl) ?_
    refine gd_pure 1 rfl (by kernel_rfl) (PQ.th (PQ.th PQ.body)) hS9 rfl rfl (Pp xb 0) (by kernel_rfl) ?_
    refine gd_pure 2 rfl (by kernel_rfl) (PQ.th (PQ.th PQ.body)) hS9 rfl rfl (Pp xb 2) (by kernel_rfl) ?_
    refine gd_keep [(0, Pp xb 0), (3, Pp b1 0), (4, Pp b3 0), (7, Pp b8 0), (71, Pp xb 2)] (by kernel_rfl) ?_
    refine gd_q 3 rfl (by kernel_rfl) (PQ.th (PQ.th PQ.body)) hS9 rfl rfl (fun w_ hS => (rd_loadK 1 (by kernel_rfl) hS rfl rfl rfl)) ?_
    refine gd_pure 4 rfl (by kernel_rfl) (PQ.th (PQ.th PQ.body)) hS9 rfl rfl (Pp b1 2) (by kernel_rfl) ?_
    refine gd_q 5 rfl (by kernel_rfl) (PQ.th (PQ.th PQ.body)) hS9 rfl rfl (fun w_ hS => (rd_loadK 4 (by kernel_rfl) hS rfl rfl rfl)) ?_
    refine gd_keep [(0, Pp xb 0), (3, Pp b1 0), (4, Pp b3 0), (7, Pp b8 0), (72, .map (some mb)), (74, .int .i64 p.n)] (by kernel_rfl) ?_
    refine gd_q 6 rfl (by kernel_rfl) (PQ.th (PQ.th PQ.body)) hS9 rfl rfl (fun w_ hS => (rd_mapgetOk (kt := 3) (e := 22) (zv := .slice none 0 0) 0 (by kernel_rfl) (by kernel_rfl) (intK_key .i64) (by kernel_rfl) hS rfl rfl (p.n : Int) rfl)) ?_
    refine gd_pure 7 rfl (by kernel_rfl) (PQ.th (PQ.th PQ.body)) hS9 rfl rfl (.tuple #[((kget (kv rs2) (p.n : Int)).getD (.slice none 0 0)), .bool ((kget (kv rs2) (p.n : Int)).isSome)]) (by kernel_rfl) ?_
    refine gd_pure 8 rfl (by kernel_rfl) (PQ.th (PQ.th PQ.body)) hS9 rfl rfl (((kget (kv rs2) (p.n : Int)).getD (.slice none 0 0))) (by kernel_rfl) ?_
    refine gd_keep [(0, Pp xb 0), (3, Pp b1 0), (4, Pp b3 0), (7, Pp b8 0), (68, .tuple #[((kget (kv rs2) (p.n : Int)).getD (.slice none 0 0)), .bool ((kget (kv rs2) (p.n : Int)).isSome)]), (76, ((kget (kv rs2) (p.n : Int)).getD (.slice none 0 0)))] (by kernel_rfl) ?_
    refine gd_pure 9 rfl (by kernel_rfl) (PQ.th (PQ.th PQ.body)) hS9 rfl rfl (.bool ((kget (kv rs2) (p.n : Int)).isSome)) (by kernel_rfl) ?_
    refine gd_pure 10 rfl (by kernel_rfl) (PQ.th (PQ.th PQ.body)) hS9 rfl rfl (((kget (kv rs2) (p.n : Int)).getD (.slice none 0 0))) (by kernel_rfl) ?_
    refine gd_pure 11 rfl (by kernel_rfl) (PQ.th (PQ.th PQ.body)) hS9 rfl rfl (.bool ((kget (kv rs2) (p.n : Int)).isSome)) (by kernel_rfl) ?_
    refine gd_keep [(0, Pp xb 0), (3, Pp b1 0), (4, Pp b3 0), (7, Pp b8 0), (9, .bool ((kget (kv rs2) (p.n : Int)).isSome))] (by kernel_rfl) ?_
    refine gd_done (by kernel_rfl) ?_
    refine at_sub [(0, Pp xb 0), (3, Pp b1 0), (4, Pp b3 0), (7, Pp b8 0), (9, .bool ((kget (kv rs2) (p.n : Int)).isSome))] (Sub.of_eq (by kernel_rfl)) ?_
    refine sw_next ?_
    refine sw_sr ?_
    refine gl_ops 2 [(0, Pp xb 0), (3, Pp b1 0), (4, Pp b3 0), (7, Pp b8 0), (79, .bool (!((kget (kv rs2) (p.n : Int)).isSome)))] (by kernel_rfl) ?_
    refine gl_dn rfl ?_
    refine sw_cond rfl rfl (fun hc7 => ?_) (fun hc7 => ?_)
    ·
      refine sw_cv 79 (.bool true) (by rw [hc7]) rfl ?_
      try simp only [Bool.not_eq_true'] at hc7
      refine sw_draw (by kernel_rfl) (fun w_ => Hp w w_ (off w (blksOf [.grp (ibxO xb nb mb ⟨some (tn, ix), mn, rs⟩ l)])) (blksOf [.grp (ibxO xb nb mb ⟨some (tn, ix), mn, rs⟩ l)]) [.blk xb 113 [Pp nb2 0, Ni p.many.toNat, .map (some mb)], .grp (ibxOwn 5 rs2), .grp (nbox b8 nb2 p), .blk b1 63 [.int .i64 p.idx, .int .i64 p.term, .int .i64 p.n, .int .i64 p.many, .slice Ab p.bytes.length cb], .blk b3 24 [.int .i64 0, .int .i64 0, .slice none 0 0, .slice none 0 0], .blk b8 116 [.int .i64 p.term, .int .i64 p.idx]]) ?_
      replace hH := hH.drew
      generalize { w23 with drawn := w23.drawn + 1 } = w24 at hH ⊢
      have hS9 := hH.sublist (.cons _ (.cons_cons _ (.cons_cons _ (.cons_cons _ (.cons_cons _ (.cons_cons _ (.cons_cons _ (List.nil_sublist _))))))))
      refine gd_pure 0 rfl (by kernel_rfl) (PQ.th PQ.body) hS9 rfl rfl (Pp xb 0) (by kernel_rfl) ?_
      refine gd_pure 1 rfl (by kernel_rfl) (PQ.th PQ.body) hS9 rfl rfl (Pp xb 0) (by kernel_rfl) ?_
      refine gd_pure 2 rfl (by kernel_rfl) (PQ.th PQ.body) hS9 rfl rfl (Pp xb 2) (by kernel_rfl) ?_
      refine gd_keep [(0, Pp xb 0), (3, Pp b1 0), (4, Pp b3 0), (7, Pp b8 0), (82, Pp xb 2)] (by kernel_rfl) ?_
      refine gd_q 3 rfl (by kernel_rfl) (PQ.th PQ.body) hS9 rfl rfl (fun w_ hS => (rd_loadK 0 (by kernel_rfl) hS rfl rfl rfl)) ?_
      refine gd_pure 4 rfl (by kernel_rfl) (PQ.th PQ.body) hS9 rfl rfl (Pp b1 2) (by kernel_rfl) ?_
      refine gd_q 5 rfl (by kernel_rfl) (PQ.th PQ.body) hS9 rfl rfl (fun w_ hS => (rd_loadK 3 (by kernel_rfl) hS rfl rfl rfl)) ?_
      refine gd_keep [(0, Pp xb 0), (3, Pp b1 0), (4, Pp b3 0), (7, Pp b8 0), (83, .map (some mb)), (85, .int .i64 p.n)] (by kernel_rfl) ?_
      refine gd_pure 6 rfl (by kernel_rfl) (PQ.th PQ.body) hS9 rfl rfl (Pp b1 4) (by kernel_rfl) ?_
      refine gd_q 7 rfl (by kernel_rfl) (PQ.th PQ.body) hS9 rfl rfl (fun w_ hS => (rd_loadK 3 (by kernel_rfl) hS rfl rfl rfl)) ?_
      refine gd_st 8 (by kernel_rfl) (st_call rfl rfl rfl (by kernel_rfl) rfl (Clone_ct _ _ _ (hb.mono hH.zin) (by first | omega | (simp <;> omega))) ?_)
      rintro _ w27 ⟨v25, rfl, hF28⟩
      replace hH := hH.call hF28; clear hF28
      obtain ⟨A29, c30, rfl, hl31, hm32⟩ := hH.row_form 7 rfl
      replace hH : Hp w w27 _ _ [.kmap mb (intK .i64) (kv rs2), .blk xb 113 [Pp nb2 0, Ni p.many.toNat, .map (some mb)], .grp (ibxOwn 5 rs2), .grp (nbox b8 nb2 p), .blk b1 63 [.int .i64 p.idx, .int .i64 p.term, .int .i64 p.n, .int .i64 p.many, .slice Ab p.bytes.length cb], .blk b3 24 [.int .i64 0, .int .i64 0, .slice none 0 0, .slice none 0 0], .blk b8 116 [.int .i64 p.term, .int .i64 p.idx], .row (.slice A29 p.bytes.length c30) 5 1 p.bytes.length (bv p.bytes)] := hH
      replace hS9 := hH.sublist (.cons _ (.cons_cons _ (.cons_cons _ (.cons_cons _ (.cons_cons _ (.cons_cons _ (.cons_cons _ (List.nil_sublist _))))))))
      refine ⟨hS9, ?_⟩
      refine gd_keep [(0, Pp xb 0), (4, Pp b3 0), (7, Pp b8 0), (83, .map (some mb)), (85, .int .i64 p.n), (88, .slice A29 p.bytes.length c30)] (by kernel_rfl) ?_
      refine gd_st 9 (by kernel_rfl) (st_mapput (kt := 3) (e := 22) (v := .slice A29 p.bytes.length c30) 0 rfl rfl rfl (by kernel_rfl) (by kernel_rfl) (intK_key .i64) hH rfl rfl (p.n : Int) rfl rfl (kget_none (by rw [← kget_has]; exact hc7)) ?_)
      clear hH; intro w33 hH
      replace hH : Hp w w33 _ _ [.kmap mb (intK .i64) (kv rs2 ++ [((p.n : Int), Value.slice A29 p.bytes.length c30)]), .blk xb 113 [Pp nb2 0, Ni p.many.toNat, .map (some mb)], .grp (ibxOwn 5 rs2), .grp (nbox b8 nb2 p), .blk b1 63 [.int .i64 p.idx, .int .i64 p.term, .int .i64 p.n, .int .i64 p.many, .slice Ab p.bytes.length cb], .blk b3 24 [.int .i64 0, .int .i64 0, .slice none 0 0, .slice none 0 0], .blk b8 116 [.int .i64 p.term, .int .i64 p.idx], .row (.slice A29 p.bytes.length c30) 5 1 p.bytes.length (bv p.bytes)] := hH
      replace hS9 := hH.sublist (.cons _ (.cons_cons _ (.cons_cons _ (.cons_cons _ (.cons_cons _ (.cons_cons _ (.cons_cons _ (List.nil_sublist _))))))))
      refine ⟨hS9, ?_⟩
      refine gd_keep [(0, Pp xb 0), (4, Pp b3 0), (7, Pp b8 0)] (by kernel_rfl) ?_
      refine gd_done (by kernel_rfl) ?_
      refine at_sub [(0, Pp xb 0), (4, Pp b3 0), (7, Pp b8 0)] (Sub.of_eq (by kernel_rfl)) ?_
      refine cut_end ((Value.slice A29 p.bytes.length c30)) (Sub.of_eq (by kernel_rfl)) ?_
      have hw : withP rs2 p (Value.slice A29 p.bytes.length c30) = rs2 ++ [(p.n, (Value.slice A29 p.bytes.length c30), p.bytes)] := withP_new _ (by rw [← kget_has]; exact hc7)
      replace hH := hH.pick [2, 7, 0, 1, 3, 4, 5, 6] (by kernel_rfl) (os' := [.grp (ibxOwn 5 rs2), .row (.slice A29 p.bytes.length c30) 5 1 p.bytes.length (bv p.bytes), .kmap mb (intK .i64) (kv rs2 ++ [((p.n : Int), Value.slice A29 p.bytes.length c30)]), .blk xb 113 [Pp nb2 0, Ni p.many.toNat, .map (some mb)], .grp (nbox b8 nb2 p), .blk b1 63 [.int .i64 p.idx, .int .i64 p.term, .int .i64 p.n, .int .i64 p.many, .slice Ab p.bytes.length cb], .blk b3 24 [.int .i64 0, .int .i64 0, .slice none 0 0, .slice none 0 0], .blk b8 116 [.int .i64 p.term, .int .i64 p.idx]]) (by kernel_rfl)
      replace hH := hH.merge
      replace hH := hH.cast (os' := [.grp (ibxOwn 5 (rs2 ++ [(p.n, (Value.slice A29 p.bytes.length c30), p.bytes)])), .kmap mb (intK .i64) (kv rs2 ++ [((p.n : Int), Value.slice A29 p.bytes.length c30)]), .blk xb 113 [Pp nb2 0, Ni p.many.toNat, .map (some mb)], .grp (nbox b8 nb2 p), .blk b1 63 [.int .i64 p.idx, .int .i64 p.term, .int .i64 p.n, .int .i64 p.many, .slice Ab p.bytes.length cb], .blk b3 24 [.int .i64 0, .int .i64 0, .slice none 0 0, .slice none 0 0], .blk b8 116 [.int .i64 p.term, .int .i64 p.idx]]) (by rw [ibxOwn_snoc])
      replace hH := hH.cast (os' := [.grp (ibxOwn 5 (rs2 ++ [(p.n, (Value.slice A29 p.bytes.length c30), p.bytes)])), .kmap mb (intK .i64) (kv (rs2 ++ [(p.n, (Value.slice A29 p.bytes.length c30), p.bytes)])), .blk xb 113 [Pp nb2 0, Ni p.many.toNat, .map (some mb)], .grp (nbox b8 nb2 p), .blk b1 63 [.int .i64 p.idx, .int .i64 p.term, .int .i64 p.n, .int .i64 p.many, .slice Ab p.bytes.length cb], .blk b3 24 [.int .i64 0, .int .i64 0, .slice none 0 0, .slice none 0 0], .blk b8 116 [.int .i64 p.term, .int .i64 p.idx]]) (by rw [kv_snoc])
      replace hH := hH.pick [1, 2, 0, 3, 4, 5, 6] (by kernel_rfl) (os' := [.kmap mb (intK .i64) (kv (rs2 ++ [(p.n, (Value.slice A29 p.bytes.length c30), p.bytes)])), .blk xb 113 [Pp nb2 0, Ni p.many.toNat, .map (some mb)], .grp (ibxOwn 5 (rs2 ++ [(p.n, (Value.slice A29 p.bytes.length c30), p.bytes)])), .grp (nbox b8 nb2 p), .blk b1 63 [.int .i64 p.idx, .int .i64 p.term, .int .i64 p.n, .int .i64 p.many, .slice Ab p.bytes.length cb], .blk b3 24 [.int .i64 0, .int .i64 0, .slice none 0 0, .slice none 0 0], .blk b8 116 [.int .i64 p.term, .int .i64 p.idx]]) (by kernel_rfl)
      replace hH := (hH.sublist (.cons_cons _ (.cons_cons _ (.cons_cons _ (.cons_cons _ (.cons_cons _ (.cons_cons _ (.cons_cons _ (List.nil_sublist _)))))))))
      replace hH : Hp w w33 _ _ [.kmap mb (intK .i64) (kv (rs2 ++ [(p.n, (Value.slice A29 p.bytes.length c30), p.bytes)])), .blk xb 113 [Pp nb2 0, Ni p.many.toNat, .map (some mb)], .grp (ibxOwn 5 (rs2 ++ [(p.n, (Value.slice A29 p.bytes.length c30), p.bytes)])), .grp (nbox b8 nb2 p), .blk b1 63 [.int .i64 p.idx, .int .i64 p.term, .int .i64 p.n, .int .i64 p.many, .slice Ab p.bytes.length cb], .blk b3 24 [.int .i64 0, .int .i64 0, .slice none 0 0, .slice none 0 0], .blk b8 116 [.int .i64 p.term, .int .i64 p.idx]] := hH
      rw [hw]; exact hH
    refine sw_cv 79 (.bool false) (by rw [hc7]) rfl ?_
    try simp only [Bool.not_eq_false'] at hc7
    refine sw_skip ?_
    refine cut_end ((Value.slice none 0 0)) (Sub.of_eq (by kernel_rfl)) ?_
    have hw : withP rs2 p (Value.slice none 0 0) = rs2 := withP_old _ (by rw [← kget_has]; exact hc7)
    rw [hw]; exact hH
  clear hH
  rintro nv w34 hH
  have hsh3 := withP_short hsh2 q6 nv
  refine sw_keep [(0, Pp xb 0), (4, Pp b3 0), (7, Pp b8 0)] (by kernel_rfl) ?_
  refine sw_seq ?_
  refine sw_seq ?_
  refine sw_draw (by kernel_rfl) (fun w_ => Hp w w_ (off w (blksOf [.grp (ibxO xb nb mb ⟨some (tn, ix), mn, rs⟩ l)])) (blksOf [.grp (ibxO xb nb mb ⟨some (tn, ix), mn, rs⟩ l)]) [.kmap mb (intK .i64) (kv (withP rs2 p nv)), .blk xb 113 [Pp nb2 0, Ni p.many.toNat, .map (some mb)], .grp (ibxOwn 5 (withP rs2 p nv)), .grp (nbox b8 nb2 p), .blk b1 63 [.int .i64 p.idx, .int .i64 p.term, .int .i64 p.n, .int .i64 p.many, .slice Ab p.bytes.length cb], .blk b3 24 [.int .i64 0, .int .i64 0, .slice none 0 0, .slice none 0 0], .blk b8 116 [.int .i64 p.term, .int .i64 p.idx]]) ?_
  replace hH := hH.drew
  generalize { w34 with drawn := w34.drawn + 1 } = w35 at hH ⊢
  have hS9 := hH.sublist (.cons_cons _ (.cons_cons _ (.cons_cons _ (.cons_cons _ (.cons_cons _ (.cons_cons _ (.cons_cons _ (List.nil_sublist _))))))))
  refine gd_pure 0 rfl (by kernel_rfl) (PQ.th (PQ.th PQ.body)) hS9 rfl rfl (Pp xb 0) (by kernel_rfl) ?_
  refine gd_pure 1 rfl (by kernel_rfl) (PQ.th (PQ.th PQ.body)) hS9 rfl rfl (Pp xb 0) (by kernel_rfl) ?_
  refine gd_pure 2 rfl (by kernel_rfl) (PQ.th (PQ.th PQ.body)) hS9 rfl rfl (Pp xb 2) (by kernel_rfl) ?_
  refine gd_keep [(0, Pp xb 0), (4, Pp b3 0), (7, Pp b8 0), (91, Pp xb 2)] (by kernel_rfl) ?_
  refine gd_q 3 rfl (by kernel_rfl) (PQ.th (PQ.th PQ.body)) hS9 rfl rfl (fun w_ hS => (rd_loadK 1 (by kernel_rfl) hS rfl rfl rfl)) ?_
  refine gd_q 4 rfl (by kernel_rfl) (PQ.th (PQ.th PQ.body)) hS9 rfl rfl (fun w_ hS => (rd_maplen (kt := 3) (e := 22) 0 (by kernel_rfl) hS rfl rfl)) ?_
  refine gd_pure 5 rfl (by kernel_rfl) (PQ.th (PQ.th PQ.body)) hS9 rfl rfl (Pp xb 0) (by kernel_rfl) ?_
  refine gd_keep [(0, Pp xb 0), (4, Pp b3 0), (7, Pp b8 0), (93, Ni ((kv (withP rs2 p nv)).length)), (94, Pp xb 0)] (by kernel_rfl) ?_
  refine gd_pure 6 rfl (by kernel_rfl) (PQ.th (PQ.th PQ.body)) hS9 rfl rfl (Pp xb 0) (by kernel_rfl) ?_
  refine gd_pure 7 rfl (by kernel_rfl) (PQ.th (PQ.th PQ.body)) hS9 rfl rfl (Pp xb 1) (by kernel_rfl) ?_
  refine gd_q 8 rfl (by kernel_rfl) (PQ.th (PQ.th PQ.body)) hS9 rfl rfl (fun w_ hS => (rd_loadK 1 (by kernel_rfl) hS rfl rfl rfl)) ?_
  refine gd_keep [(0, Pp xb 0), (4, Pp b3 0), (7, Pp b8 0), (93, Ni ((kv (withP rs2 p nv)).length)), (97, Ni p.many.toNat)] (by kernel_rfl) ?_
  refine gd_pure 9 rfl (by kernel_rfl) (PQ.th (PQ.th PQ.body)) hS9 rfl rfl (.bool (decide ((((kv (withP rs2 p nv)).length : Nat) : Int) < ((p.many.toNat : Nat) : Int)))) (by kernel_rfl) ?_
  refine gd_done (by kernel_rfl) ?_
  refine at_sub [(0, Pp xb 0), (4, Pp b3 0), (7, Pp b8 0), (98, .bool (decide ((((kv (withP rs2 p nv)).length : Nat) : Int) < ((p.many.toNat : Nat) : Int))))] (Sub.of_eq (by kernel_rfl)) ?_
  refine sw_next ?_
  refine sw_cond rfl rfl (fun hc8 => ?_) (fun hc8 => ?_)
  ·
    refine sw_cv 98 (.bool true) (by rw [hc8]) rfl ?_
    try simp only [decide_eq_true_eq] at hc8
    rw [kv_length] at hc8
    refine sw_sr ?_
    refine gl_ops 1 [(4, Pp b3 0), (99, .agg #[.int .i64 0, .int .i64 0, .slice none 0 0, .slice none 0 0])] (by kernel_rfl) ?_
    refine gl_st (st_storeKA (vs := [.int .i64 0, .int .i64 0, .slice none 0 0, .slice none 0 0]) 5 rfl rfl rfl hH rfl rfl (by kernel_rfl) (by kernel_rfl) rfl (by simp) [.int .i64 0, .int .i64 0, .slice none 0 0, .slice none 0 0] rfl ?_)
    clear hH; intro w36 hH
    replace hH : Hp w w36 _ _ [.kmap mb (intK .i64) (kv (withP rs2 p nv)), .blk xb 113 [Pp nb2 0, Ni p.many.toNat, .map (some mb)], .grp (ibxOwn 5 (withP rs2 p nv)), .grp (nbox b8 nb2 p), .blk b1 63 [.int .i64 p.idx, .int .i64 p.term, .int .i64 p.n, .int .i64 p.many, .slice Ab p.bytes.length cb], .blk b3 24 [.int .i64 0, .int .i64 0, .slice none 0 0, .slice none 0 0], .blk b8 116 [.int .i64 p.term, .int .i64 p.idx]] := hH
    refine gl_ops 2 [(4, Pp b3 0), (5, .bool false), (6, .nilIface)] (by kernel_rfl) ?_
    refine gl_dn rfl ?_
    refine sw_ret ?_
    refine thR ?_
    refine retC3 rfl (RS.cellA hH 5 (by kernel_rfl) rfl rfl (by kernel_rfl) [.int .i64 0, .int .i64 0, .slice none 0 0, .slice none 0 0] rfl rfl) (RS.tmp rfl) (RS.tmp rfl) ?_
    replace hH := hH.pick [3, 6, 0, 1, 2, 4, 5] (by kernel_rfl) (os' := [.grp (nbox b8 nb2 p), .blk b8 116 [.int .i64 p.term, .int .i64 p.idx], .kmap mb (intK .i64) (kv (withP rs2 p nv)), .blk xb 113 [Pp nb2 0, Ni p.many.toNat, .map (some mb)], .grp (ibxOwn 5 (withP rs2 p nv)), .blk b1 63 [.int .i64 p.idx, .int .i64 p.term, .int .i64 p.n, .int .i64 p.many, .slice Ab p.bytes.length cb], .blk b3 24 [.int .i64 0, .int .i64 0, .slice none 0 0, .slice none 0 0]]) (by kernel_rfl)
    replace hH := nbox_own hH
    replace hH := hH.pick [1, 2, 3, 0, 4, 5] (by kernel_rfl) (os' := [.kmap mb (intK .i64) (kv (withP rs2 p nv)), .blk xb 113 [Pp nb2 0, Ni p.many.toNat, .map (some mb)], .grp (ibxOwn 5 (withP rs2 p nv)), .blk nb2 116 [.int .i64 p.term, .int .i64 p.idx], .blk b1 63 [.int .i64 p.idx, .int .i64 p.term, .int .i64 p.n, .int .i64 p.many, .slice Ab p.bytes.length cb], .blk b3 24 [.int .i64 0, .int .i64 0, .slice none 0 0, .slice none 0 0]]) (by kernel_rfl)
    replace hH := (hH.sublist (.cons_cons _ (.cons_cons _ (.cons_cons _ (.cons_cons _ (List.nil_sublist _))))))
    replace hH : Hp w w36 _ _ [.kmap mb (intK .i64) (kv (withP rs2 p nv)), .blk xb 113 [Pp nb2 0, Ni p.many.toNat, .map (some mb)], .grp (ibxOwn 5 (withP rs2 p nv)), .blk nb2 116 [.int .i64 p.term, .int .i64 p.idx]] := hH
    replace hH : Hp w w36 _ _ ([.kmap mb (intK .i64) (kv (withP rs2 p nv)), .blk xb 113 [Pp nb2 0, Ni p.many.toNat, .map (some mb)], .grp (ibxOwn 5 (withP rs2 p nv)), .blk nb2 116 [.int .i64 p.term, .int .i64 p.idx]] ++ []) := hH
    have hr := putI_few (S := ⟨some (tn, ix), mn, rs⟩) nv hc1 hbase (by omega)
    refine ⟨nv, nb2, kv (withP rs2 p nv), .slice none 0 0, .slice none 0 0, ?_⟩
    rw [hr]
    exact ⟨rfl, fun _ => rfl, (((hH.close).nilRow 5 1).nilRow 5 1).turned⟩
  refine sw_cv 98 (.bool false) (by rw [hc8]) rfl ?_
  try simp only [decide_eq_false_iff_not, Int.not_lt, Int.not_le] at hc8
  rw [kv_length] at hc8
  refine sw_skip ?_
  refine sw_next ?_
  refine sw_sr ?_
  refine gl_ops 1 [(0, Pp xb 0), (4, Pp b3 0), (7, Pp b8 0), (10, .slice none 0 0)] (by kernel_rfl) ?_
  replace hH := hH.nilRow 5 1
  refine gl_dn rfl ?_
  refine sw_seq ?_
  refine sw_sr ?_
  refine gl_ops 3 [(0, Pp xb 0), (4, Pp b3 0), (7, Pp b8 0), (10, .slice none 0 0), (102, Pp xb 1)] (by kernel_rfl) ?_
  refine gl_q rfl rfl rfl (rd_loadK 1 (by kernel_rfl) hH rfl rfl rfl) ?_
  refine gl_ops 1 [(0, Pp xb 0), (4, Pp b3 0), (7, Pp b8 0), (10, .slice none 0 0), (103, Ni p.many.toNat), (104, .int .i64 0)] (by kernel_rfl) ?_
  refine gl_dn rfl ?_
  refine sw_block ?_
  refine sw_loop (γ := Nat × Option Addr × Nat) (fun (i, A, c) => [(0, Pp xb 0), (4, Pp b3 0), (7, Pp b8 0), (10, .slice A ((joinI (withP rs2 p nv) i).length) c), (103, Ni p.many.toNat), (104, Ni i)]) (fun (i, A, c) w_ => (i ≤ p.many.toNat) ∧ Hp w w_ (off w (blksOf [.grp (ibxO xb nb mb ⟨some (tn, ix), mn, rs⟩ l)])) (blksOf [.grp (ibxO xb nb mb ⟨some (tn, ix), mn, rs⟩ l)]) [.kmap mb (intK .i64) (delN (kv (withP rs2 p nv)) i), .blk xb 113 [Pp nb2 0, Ni p.many.toNat, .map (some mb)], .grp (ibxOwn 5 (withP rs2 p nv)), .grp (nbox b8 nb2 p), .blk b1 63 [.int .i64 p.idx, .int .i64 p.term, .int .i64 p.n, .int .i64 p.many, .slice Ab p.bytes.length cb], .blk b3 24 [.int .i64 0, .int .i64 0, .slice none 0 0, .slice none 0 0], .blk b8 116 [.int .i64 p.term, .int .i64 p.idx], .row (.slice A (joinI (withP rs2 p nv) i).length c) 5 1 ((joinI (withP rs2 p nv) i).length) (bv (joinI (withP rs2 p nv) i))]) (fun (i, A, c) => p.many.toNat - i) (0, none, 0) (Sub.of_eq (by kernel_rfl)) ?_ ?_
  · exact ⟨by omega, hH⟩
  clear hH
  rintro ⟨i, A, c⟩ w37 ⟨hi, hH⟩
  have hj := joinI_le hsh3 i
  have hro := rowOf_le hsh3 ((i : Nat) : Int)
  refine sw_keep [(0, Pp xb 0), (4, Pp b3 0), (7, Pp b8 0), (10, .slice A ((joinI (withP rs2 p nv) i).length) c), (103, Ni p.many.toNat), (104, Ni i)] (by kernel_rfl) ?_
  refine sw_sr ?_
  refine gl_ops 1 [(0, Pp xb 0), (4, Pp b3 0), (7, Pp b8 0), (10, .slice A ((joinI (withP rs2 p nv) i).length) c), (103, Ni p.many.toNat), (104, Ni i), (105, .bool (decide (((i : Nat) : Int) < ((p.many.toNat : Nat) : Int))))] (by kernel_rfl) ?_
  refine gl_dn rfl ?_
  refine sw_seq ?_
  refine sw_cond rfl rfl (fun hc9 => ?_) (fun hc9 => ?_)
  ·
    refine sw_cv 105 (.bool true) (by rw [hc9]) rfl ?_
    try simp only [decide_eq_true_eq] at hc9
    refine sw_skip ?_
    refine sw_next ?_
    refine sw_seq ?_
    refine sw_block ?_
    refine sw_sr ?_
    refine gl_ops 2 [(0, Pp xb 0), (4, Pp b3 0), (7, Pp b8 0), (10, .slice A ((joinI (withP rs2 p nv) i).length) c), (11, Ni i), (103, Ni p.many.toNat), (104, Ni i)] (by kernel_rfl) ?_
    refine gl_dn rfl ?_
    refine sw_sr ?_
    refine gl_ops 4 [(0, Pp xb 0), (4, Pp b3 0), (7, Pp b8 0), (11, Ni i), (103, Ni p.many.toNat), (104, Ni i), (107, .slice A ((joinI (withP rs2 p nv) i).length) c), (110, Pp xb 2)] (by kernel_rfl) ?_
    refine gl_q rfl rfl rfl (rd_loadK 1 (by kernel_rfl) hH rfl rfl rfl) ?_
    refine gl_ops 1 [(0, Pp xb 0), (4, Pp b3 0), (7, Pp b8 0), (11, Ni i), (103, Ni p.many.toNat), (104, Ni i), (107, .slice A ((joinI (withP rs2 p nv) i).length) c), (111, .map (some mb)), (112, Ni i)] (by kernel_rfl) ?_
    have hq41 := rows_rb hH 2 rfl ((i : Nat) : Int)
    obtain ⟨A38, c39, hv40, -, -⟩ := hq41.row.form
    rw [hv40] at hq41
    refine gl_q rfl rfl rfl (rd_mapget (kt := 3) (e := 22) (zv := .slice none 0 0) 0 (by kernel_rfl) (by kernel_rfl) (intK_key .i64) (by kernel_rfl) hH rfl rfl (((i : Nat) : Int) : Int) rfl) ?_
    refine gl_cv 113 (.slice A38 ((rowOf (withP rs2 p nv) ((i : Nat) : Int)).length) c39) (by rw [kget_delN _ _ _ (Nat.le_refl _)]; exact hv40) rfl ?_
    refine gl_st (st_appH (e := 5) (zv := .int .u8 0) (m := 1) (bytes := 1) 7 rfl rfl rfl (by kernel_rfl) (by kernel_rfl) rfl (by decide) hH rfl rfl rfl hq41.row (bv_one _) (by unfold maxLen; omega) (by omega) ?_)
    clear hH; intro v42 w43 hH
    replace hH := hH.row_eq 7 (l' := ((joinI (withP rs2 p nv) i) ++ (rowOf (withP rs2 p nv) ((i : Nat) : Int))).length) (xs' := bv ((joinI (withP rs2 p nv) i) ++ (rowOf (withP rs2 p nv) ((i : Nat) : Int)))) rfl (by simp only [List.length_append, List.length_cons, List.length_nil] <;> omega) ((bv_append _ _).symm)
    replace hH := hH.row_eq 7 (l' := (joinI (withP rs2 p nv) (i + 1)).length) (xs' := bv (joinI (withP rs2 p nv) (i + 1))) rfl (by rw [joinI_snoc]) (by rw [joinI_snoc])
    obtain ⟨A44, c45, rfl, hl46, hm47⟩ := hH.row_form 7 rfl
    replace hH : Hp w w43 _ _ [.kmap mb (intK .i64) (delN (kv (withP rs2 p nv)) i), .blk xb 113 [Pp nb2 0, Ni p.many.toNat, .map (some mb)], .grp (ibxOwn 5 (withP rs2 p nv)), .grp (nbox b8 nb2 p), .blk b1 63 [.int .i64 p.idx, .int .i64 p.term, .int .i64 p.n, .int .i64 p.many, .slice Ab p.bytes.length cb], .blk b3 24 [.int .i64 0, .int .i64 0, .slice none 0 0, .slice none 0 0], .blk b8 116 [.int .i64 p.term, .int .i64 p.idx], .row (.slice A44 ((joinI (withP rs2 p nv) (i + 1)).length) c45) 5 1 ((joinI (withP rs2 p nv) (i + 1)).length) (bv (joinI (withP rs2 p nv) (i + 1)))] := hH
    refine gl_ops 1 [(0, Pp xb 0), (4, Pp b3 0), (7, Pp b8 0), (10, .slice A44 ((joinI (withP rs2 p nv) (i + 1)).length) c45), (11, Ni i), (103, Ni p.many.toNat), (104, Ni i)] (by kernel_rfl) ?_
    refine gl_dn rfl ?_
    refine sw_region ?_
    refine gl_ops 3 [(0, Pp xb 0), (4, Pp b3 0), (7, Pp b8 0), (10, .slice A44 ((joinI (withP rs2 p nv) (i + 1)).length) c45), (11, Ni i), (103, Ni p.many.toNat), (104, Ni i), (117, Pp xb 2)] (by kernel_rfl) ?_
    refine gl_q rfl rfl rfl (rd_loadK 1 (by kernel_rfl) hH rfl rfl rfl) ?_
    refine gl_ops 1 [(0, Pp xb 0), (4, Pp b3 0), (7, Pp b8 0), (10, .slice A44 ((joinI (withP rs2 p nv) (i + 1)).length) c45), (103, Ni p.many.toNat), (104, Ni i), (118, .map (some mb)), (119, Ni i)] (by kernel_rfl) ?_
    refine gl_st (st_mapdel (kt := 3) (e := 22) 0 rfl rfl rfl (by kernel_rfl) (by kernel_rfl) (intK_key .i64) hH rfl rfl (((i : Nat) : Int) : Int) rfl ?_)
    clear hH; intro w48 hH
    replace hH : Hp w w48 _ _ [.kmap mb (intK .i64) (kdel (delN (kv (withP rs2 p nv)) i) (((i : Nat) : Int) : Int)), .blk xb 113 [Pp nb2 0, Ni p.many.toNat, .map (some mb)], .grp (ibxOwn 5 (withP rs2 p nv)), .grp (nbox b8 nb2 p), .blk b1 63 [.int .i64 p.idx, .int .i64 p.term, .int .i64 p.n, .int .i64 p.many, .slice Ab p.bytes.length cb], .blk b3 24 [.int .i64 0, .int .i64 0, .slice none 0 0, .slice none 0 0], .blk b8 116 [.int .i64 p.term, .int .i64 p.idx], .row (.slice A44 ((joinI (withP rs2 p nv) (i + 1)).length) c45) 5 1 ((joinI (withP rs2 p nv) (i + 1)).length) (bv (joinI (withP rs2 p nv) (i + 1)))] := hH
    refine gl_done rfl ?_
    refine bkN ?_
    refine sw_next ?_
    refine sw_region ?_
    refine gl_ops 1 [(0, Pp xb 0), (4, Pp b3 0), (7, Pp b8 0), (10, .slice A44 ((joinI (withP rs2 p nv) (i + 1)).length) c45), (103, Ni p.many.toNat), (120, .int .i64 (IntKind.i64.wrap (((i : Nat) : Int) + 1)))] (by kernel_rfl) ?_
    refine gl_cv 120 (Ni (i + 1)) (cv_i64 (by omega)) rfl ?_
    refine gl_ops 1 [(0, Pp xb 0), (4, Pp b3 0), (7, Pp b8 0), (10, .slice A44 ((joinI (withP rs2 p nv) (i + 1)).length) c45), (103, Ni p.many.toNat), (104, Ni (i + 1))] (by kernel_rfl) ?_
    refine gl_done rfl ?_
    refine rnd_end (g := (i, A, c)) (i + 1, A44, c45) (by kernel_rfl) ?_ ?_
    · exact ⟨by omega, hH⟩
    · show p.many.toNat - (i + 1) < p.many.toNat - i; omega
  refine sw_cv 105 (.bool false) (by rw [hc9]) rfl ?_
  try simp only [decide_eq_false_iff_not, Int.not_lt, Int.not_le] at hc9
  refine sw_exit ?_
  refine thX ?_
  refine thX ?_
  refine bkH ?_
  refine sw_next ?_
  have hj := joinI_le hsh3 i
  have hie : i = p.many.toNat := by omega
  refine sw_sr ?_
  refine gl_ops 3 [(4, Pp b3 0), (7, Pp b8 0), (10, .slice A ((joinI (withP rs2 p nv) i).length) c), (123, Pp xb 1)] (by kernel_rfl) ?_
  refine gl_st (st_storeK (v := .int .i64 0) 1 rfl rfl rfl hH rfl rfl rfl (by kernel_rfl) rfl (by simp) ?_)
  clear hH; intro w49 hH
  replace hH : Hp w w49 _ _ [.kmap mb (intK .i64) (delN (kv (withP rs2 p nv)) i), .blk xb 113 [Pp nb2 0, .int .i64 0, .map (some mb)], .grp (ibxOwn 5 (withP rs2 p nv)), .grp (nbox b8 nb2 p), .blk b1 63 [.int .i64 p.idx, .int .i64 p.term, .int .i64 p.n, .int .i64 p.many, .slice Ab p.bytes.length cb], .blk b3 24 [.int .i64 0, .int .i64 0, .slice none 0 0, .slice none 0 0], .blk b8 116 [.int .i64 p.term, .int .i64 p.idx], .row (.slice A (joinI (withP rs2 p nv) i).length c) 5 1 ((joinI (withP rs2 p nv) i).length) (bv (joinI (withP rs2 p nv) i))] := hH
  refine gl_dn rfl ?_
  refine sw_sr ?_
  refine gl_ops 1 [(4, Pp b3 0), (7, Pp b8 0), (125, .slice A ((joinI (withP rs2 p nv) i).length) c)] (by kernel_rfl) ?_
  refine gl_st (st_call rfl rfl rfl (by kernel_rfl) rfl (Read_ct _ (joinI (withP rs2 p nv) i) _ (rb_own hH 7 rfl) (by first | omega | (simp <;> omega))) ?_)
  rintro _ w54 ⟨v50, v51, rfl, hF55⟩
  replace hH := hH.call hF55; clear hF55
  obtain ⟨A56, c57, rfl, hl58, hm59⟩ := hH.row_form 8 rfl
  obtain ⟨A60, c61, rfl, hl62, hm63⟩ := hH.row_form 9 rfl
  replace hH : Hp w w54 _ _ [.kmap mb (intK .i64) (delN (kv (withP rs2 p nv)) i), .blk xb 113 [Pp nb2 0, .int .i64 0, .map (some mb)], .grp (ibxOwn 5 (withP rs2 p nv)), .grp (nbox b8 nb2 p), .blk b1 63 [.int .i64 p.idx, .int .i64 p.term, .int .i64 p.n, .int .i64 p.many, .slice Ab p.bytes.length cb], .blk b3 24 [.int .i64 0, .int .i64 0, .slice none 0 0, .slice none 0 0], .blk b8 116 [.int .i64 p.term, .int .i64 p.idx], .row (.slice A (joinI (withP rs2 p nv) i).length c) 5 1 ((joinI (withP rs2 p nv) i).length) (bv (joinI (withP rs2 p nv) i)), .row (.slice A56 (((readV (joinI (withP rs2 p nv) i)).1.conf).length) c57) 5 1 (((readV (joinI (withP rs2 p nv) i)).1.conf).length) (bv ((readV (joinI (withP rs2 p nv) i)).1.conf)), .row (.slice A60 (((readV (joinI (withP rs2 p nv) i)).1.data).length) c61) 5 1 (((readV (joinI (withP rs2 p nv) i)).1.data).length) (bv ((readV (joinI (withP rs2 p nv) i)).1.data))] := hH
  refine gl_ops 3 [(4, Pp b3 0), (7, Pp b8 0), (127, .agg #[.int .i64 ((readV (joinI (withP rs2 p nv) i)).1.idx), .int .i64 ((readV (joinI (withP rs2 p nv) i)).1.term), .slice A56 (((readV (joinI (withP rs2 p nv) i)).1.conf).length) c57, .slice A60 (((readV (joinI (withP rs2 p nv) i)).1.data).length) c61]), (128, errV ((readV (joinI (withP rs2 p nv) i)).2))] (by kernel_rfl) ?_
  refine gl_st (st_allocH rfl rfl rfl (cs := [.int .i64 0, .int .i64 0, .slice none 0 0, .slice none 0 0]) (by kernel_rfl) hH ?_)
  clear hH; intro b64 w65 hH
  replace hH : Hp w w65 _ _ [.kmap mb (intK .i64) (delN (kv (withP rs2 p nv)) i), .blk xb 113 [Pp nb2 0, .int .i64 0, .map (some mb)], .grp (ibxOwn 5 (withP rs2 p nv)), .grp (nbox b8 nb2 p), .blk b1 63 [.int .i64 p.idx, .int .i64 p.term, .int .i64 p.n, .int .i64 p.many, .slice Ab p.bytes.length cb], .blk b3 24 [.int .i64 0, .int .i64 0, .slice none 0 0, .slice none 0 0], .blk b8 116 [.int .i64 p.term, .int .i64 p.idx], .row (.slice A (joinI (withP rs2 p nv) i).length c) 5 1 ((joinI (withP rs2 p nv) i).length) (bv (joinI (withP rs2 p nv) i)), .row (.slice A56 (((readV (joinI (withP rs2 p nv) i)).1.conf).length) c57) 5 1 (((readV (joinI (withP rs2 p nv) i)).1.conf).length) (bv ((readV (joinI (withP rs2 p nv) i)).1.conf)), .row (.slice A60 (((readV (joinI (withP rs2 p nv) i)).1.data).length) c61) 5 1 (((readV (joinI (withP rs2 p nv) i)).1.data).length) (bv ((readV (joinI (withP rs2 p nv) i)).1.data)), .blk b64 24 [.int .i64 0, .int .i64 0, .slice none 0 0, .slice none 0 0]] := hH
  refine gl_st (st_storeKA (vs := [.int .i64 ((readV (joinI (withP rs2 p nv) i)).1.idx), .int .i64 ((readV (joinI (withP rs2 p nv) i)).1.term), .slice A56 (((readV (joinI (withP rs2 p nv) i)).1.conf).length) c57, .slice A60 (((readV (joinI (withP rs2 p nv) i)).1.data).length) c61]) 10 rfl rfl rfl hH rfl rfl (by kernel_rfl) (by kernel_rfl) rfl (by simp) [.int .i64 ((readV (joinI (withP rs2 p nv) i)).1.idx), .int .i64 ((readV (joinI (withP rs2 p nv) i)).1.term), .slice A56 (((readV (joinI (withP rs2 p nv) i)).1.conf).length) c57, .slice A60 (((readV (joinI (withP rs2 p nv) i)).1.data).length) c61] rfl ?_)
  clear hH; intro w66 hH
  replace hH : Hp w w66 _ _ [.kmap mb (intK .i64) (delN (kv (withP rs2 p nv)) i), .blk xb 113 [Pp nb2 0, .int .i64 0, .map (some mb)], .grp (ibxOwn 5 (withP rs2 p nv)), .grp (nbox b8 nb2 p), .blk b1 63 [.int .i64 p.idx, .int .i64 p.term, .int .i64 p.n, .int .i64 p.many, .slice Ab p.bytes.length cb], .blk b3 24 [.int .i64 0, .int .i64 0, .slice none 0 0, .slice none 0 0], .blk b8 116 [.int .i64 p.term, .int .i64 p.idx], .row (.slice A (joinI (withP rs2 p nv) i).length c) 5 1 ((joinI (withP rs2 p nv) i).length) (bv (joinI (withP rs2 p nv) i)), .row (.slice A56 (((readV (joinI (withP rs2 p nv) i)).1.conf).length) c57) 5 1 (((readV (joinI (withP rs2 p nv) i)).1.conf).length) (bv ((readV (joinI (withP rs2 p nv) i)).1.conf)), .row (.slice A60 (((readV (joinI (withP rs2 p nv) i)).1.data).length) c61) 5 1 (((readV (joinI (withP rs2 p nv) i)).1.data).length) (bv ((readV (joinI (withP rs2 p nv) i)).1.data)), .blk b64 24 [.int .i64 ((readV (joinI (withP rs2 p nv) i)).1.idx), .int .i64 ((readV (joinI (withP rs2 p nv) i)).1.term), .slice A56 (((readV (joinI (withP rs2 p nv) i)).1.conf).length) c57, .slice A60 (((readV (joinI (withP rs2 p nv) i)).1.data).length) c61]] := hH
  refine gl_ops 1 [(4, Pp b3 0), (7, Pp b8 0), (12, Pp b64 0), (13, errV ((readV (joinI (withP rs2 p nv) i)).2))] (by kernel_rfl) ?_
  refine gl_dn rfl ?_
  refine sw_seq ?_
  refine sw_sr ?_
  refine gl_ops 1 [(4, Pp b3 0), (7, Pp b8 0), (12, Pp b64 0), (129, errV ((readV (joinI (withP rs2 p nv) i)).2))] (by kernel_rfl) ?_
  refine gl_q rfl rfl rfl (rd_err_ne (by kernel_rfl) rfl) ?_
  refine gl_ops 1 [(4, Pp b3 0), (7, Pp b8 0), (12, Pp b64 0), (131, .bool (((readV (joinI (withP rs2 p nv) i)).2) != 0))] (by kernel_rfl) ?_
  refine gl_split 131 (b := ((readV (joinI (withP rs2 p nv) i)).2) != 0) rfl (fun hg10 => ?_) (fun hg10 => ?_)
  ·
    try simp only [bne_iff_ne, ne_eq] at hg10
    have hrd : (readV (joinI (withP rs2 p nv) i)).2 ≠ 0 := by simpa using hg10
    refine gl_ops 8 [(4, Pp b3 0), (12, Pp b64 0), (139, .bool true)] (by kernel_rfl) ?_
    refine gl_dn rfl ?_
    refine sw_true rfl rfl ?_
    refine sw_sr ?_
    refine gl_ops 2 [(4, Pp b3 0), (140, .agg #[.int .i64 0, .int .i64 0, .slice none 0 0, .slice none 0 0]), (141, .iface 37 (.int .i64 91))] (by kernel_rfl) ?_
    refine gl_st (st_storeKA (vs := [.int .i64 0, .int .i64 0, .slice none 0 0, .slice none 0 0]) 5 rfl rfl rfl hH rfl rfl (by kernel_rfl) (by kernel_rfl) rfl (by simp) [.int .i64 0, .int .i64 0, .slice none 0 0, .slice none 0 0] rfl ?_)
    clear hH; intro w67 hH
    replace hH : Hp w w67 _ _ [.kmap mb (intK .i64) (delN (kv (withP rs2 p nv)) i), .blk xb 113 [Pp nb2 0, .int .i64 0, .map (some mb)], .grp (ibxOwn 5 (withP rs2 p nv)), .grp (nbox b8 nb2 p), .blk b1 63 [.int .i64 p.idx, .int .i64 p.term, .int .i64 p.n, .int .i64 p.many, .slice Ab p.bytes.length cb], .blk b3 24 [.int .i64 0, .int .i64 0, .slice none 0 0, .slice none 0 0], .blk b8 116 [.int .i64 p.term, .int .i64 p.idx], .row (.slice A (joinI (withP rs2 p nv) i).length c) 5 1 ((joinI (withP rs2 p nv) i).length) (bv (joinI (withP rs2 p nv) i)), .row (.slice A56 (((readV (joinI (withP rs2 p nv) i)).1.conf).length) c57) 5 1 (((readV (joinI (withP rs2 p nv) i)).1.conf).length) (bv ((readV (joinI (withP rs2 p nv) i)).1.conf)), .row (.slice A60 (((readV (joinI (withP rs2 p nv) i)).1.data).length) c61) 5 1 (((readV (joinI (withP rs2 p nv) i)).1.data).length) (bv ((readV (joinI (withP rs2 p nv) i)).1.data)), .blk b64 24 [.int .i64 ((readV (joinI (withP rs2 p nv) i)).1.idx), .int .i64 ((readV (joinI (withP rs2 p nv) i)).1.term), .slice A56 (((readV (joinI (withP rs2 p nv) i)).1.conf).length) c57, .slice A60 (((readV (joinI (withP rs2 p nv) i)).1.data).length) c61]] := hH
    refine gl_ops 2 [(4, Pp b3 0), (5, .bool false), (6, .iface 37 (.int .i64 91))] (by kernel_rfl) ?_
    refine gl_dn rfl ?_
    refine sw_ret ?_
    refine thR ?_
    refine retC3 rfl (RS.cellA hH 5 (by kernel_rfl) rfl rfl (by kernel_rfl) [.int .i64 0, .int .i64 0, .slice none 0 0, .slice none 0 0] rfl rfl) (RS.tmp rfl) (RS.tmp rfl) ?_
    replace hH := hH.pick [3, 6, 0, 1, 2, 4, 5, 7, 8, 9, 10] (by kernel_rfl) (os' := [.grp (nbox b8 nb2 p), .blk b8 116 [.int .i64 p.term, .int .i64 p.idx], .kmap mb (intK .i64) (delN (kv (withP rs2 p nv)) i), .blk xb 113 [Pp nb2 0, .int .i64 0, .map (some mb)], .grp (ibxOwn 5 (withP rs2 p nv)), .blk b1 63 [.int .i64 p.idx, .int .i64 p.term, .int .i64 p.n, .int .i64 p.many, .slice Ab p.bytes.length cb], .blk b3 24 [.int .i64 0, .int .i64 0, .slice none 0 0, .slice none 0 0], .row (.slice A (joinI (withP rs2 p nv) i).length c) 5 1 ((joinI (withP rs2 p nv) i).length) (bv (joinI (withP rs2 p nv) i)), .row (.slice A56 (((readV (joinI (withP rs2 p nv) i)).1.conf).length) c57) 5 1 (((readV (joinI (withP rs2 p nv) i)).1.conf).length) (bv ((readV (joinI (withP rs2 p nv) i)).1.conf)), .row (.slice A60 (((readV (joinI (withP rs2 p nv) i)).1.data).length) c61) 5 1 (((readV (joinI (withP rs2 p nv) i)).1.data).length) (bv ((readV (joinI (withP rs2 p nv) i)).1.data)), .blk b64 24 [.int .i64 ((readV (joinI (withP rs2 p nv) i)).1.idx), .int .i64 ((readV (joinI (withP rs2 p nv) i)).1.term), .slice A56 (((readV (joinI (withP rs2 p nv) i)).1.conf).length) c57, .slice A60 (((readV (joinI (withP rs2 p nv) i)).1.data).length) c61]]) (by kernel_rfl)
    replace hH := nbox_own hH
    replace hH := (hH.sublist (.cons_cons _ (.cons_cons _ (.cons_cons _ (List.nil_sublist _)))))
    replace hH : Hp w w67 _ _ [.blk nb2 116 [.int .i64 p.term, .int .i64 p.idx], .kmap mb (intK .i64) (delN (kv (withP rs2 p nv)) i), .blk xb 113 [Pp nb2 0, .int .i64 0, .map (some mb)]] := hH
    replace hH := hH.nogrp
    replace hH := hH.pick [1, 2, 3, 0] (by kernel_rfl) (os' := [.kmap mb (intK .i64) (delN (kv (withP rs2 p nv)) i), .blk xb 113 [Pp nb2 0, .int .i64 0, .map (some mb)], .grp (ibxOwn 5 []), .blk nb2 116 [.int .i64 p.term, .int .i64 p.idx]]) (by kernel_rfl)
    replace hH := (hH.sublist (.cons_cons _ (.cons_cons _ (.cons_cons _ (.cons_cons _ (List.nil_sublist _))))))
    replace hH : Hp w w67 _ _ [.kmap mb (intK .i64) (delN (kv (withP rs2 p nv)) i), .blk xb 113 [Pp nb2 0, .int .i64 0, .map (some mb)], .grp (ibxOwn 5 []), .blk nb2 116 [.int .i64 p.term, .int .i64 p.idx]] := hH
    replace hH : Hp w w67 _ _ ([.kmap mb (intK .i64) (delN (kv (withP rs2 p nv)) i), .blk xb 113 [Pp nb2 0, .int .i64 0, .map (some mb)], .grp (ibxOwn 5 []), .blk nb2 116 [.int .i64 p.term, .int .i64 p.idx]] ++ []) := hH
    have hr := (show putI ⟨some (tn, ix), mn, rs⟩ p nv = (⟨some (p.term, p.idx), 0, []⟩, Snp.none, false, 91) from by rw [putI_end nv hc1 hbase (by omega), ← hie]; rw [endI_bad1 hrd])
    refine ⟨nv, nb2, delN (kv (withP rs2 p nv)) i, .slice none 0 0, .slice none 0 0, ?_⟩
    rw [hr]
    exact ⟨rfl, fun h => absurd rfl h, (((hH.close).nilRow 5 1).nilRow 5 1).turned⟩
  try simp only [bne_eq_false_iff_eq] at hg10
  have hrd : (readV (joinI (withP rs2 p nv) i)).2 = 0 := by simpa using hg10
  refine gl_q rfl rfl rfl (rd_loadKA (m := 2) 6 (by kernel_rfl) hH rfl rfl (by kernel_rfl) [.int .i64 p.term, .int .i64 p.idx] rfl rfl) ?_
  refine gl_ops 1 [(4, Pp b3 0), (12, Pp b64 0), (131, .bool false), (132, .agg #[.int .i64 p.term, .int .i64 p.idx]), (133, Pp b64 1)] (by kernel_rfl) ?_
  refine gl_q rfl rfl rfl (rd_loadK 10 (by kernel_rfl) hH rfl rfl rfl) ?_
  refine gl_ops 1 [(4, Pp b3 0), (12, Pp b64 0), (131, .bool false), (132, .agg #[.int .i64 p.term, .int .i64 p.idx]), (134, .int .i64 ((readV (joinI (withP rs2 p nv) i)).1.term)), (135, Pp b64 0)] (by kernel_rfl) ?_
  refine gl_q rfl rfl rfl (rd_loadK 10 (by kernel_rfl) hH rfl rfl rfl) ?_
  refine gl_ops 1 [(4, Pp b3 0), (12, Pp b64 0), (131, .bool false), (132, .agg #[.int .i64 p.term, .int .i64 p.idx]), (137, .agg #[.int .i64 ((readV (joinI (withP rs2 p nv) i)).1.term), .int .i64 ((readV (joinI (withP rs2 p nv) i)).1.idx)])] (by kernel_rfl) ?_
  refine gl_q rfl rfl rfl (rd_pair_neq (k0 := .i64) (k1 := .i64) 3 3 (by kernel_rfl) (by kernel_rfl) (by kernel_rfl) (by kernel_rfl) (by kernel_rfl) (by kernel_rfl) (by kernel_rfl) (by kernel_rfl) rfl rfl) ?_
  refine gl_ops 1 [(4, Pp b3 0), (12, Pp b64 0), (139, .bool (!((p.term : Int) == ((readV (joinI (withP rs2 p nv) i)).1.term) && (p.idx : Int) == ((readV (joinI (withP rs2 p nv) i)).1.idx))))] (by kernel_rfl) ?_
  refine gl_dn rfl ?_
  refine sw_cond rfl rfl (fun hc12 => ?_) (fun hc12 => ?_)
  ·
    refine sw_cv 139 (.bool true) (by rw [hc12]) rfl ?_
    try simp only [Bool.not_eq_true', beq_eq_false_iff_ne, ne_eq] at hc12
    have hnw : ¬ ((readV (joinI (withP rs2 p nv) i)).1.term = p.term ∧ (readV (joinI (withP rs2 p nv) i)).1.idx = p.idx) := by intro hh; rw [hh.1, hh.2] at hc12; simp at hc12
    refine sw_sr ?_
    refine gl_ops 2 [(4, Pp b3 0), (140, .agg #[.int .i64 0, .int .i64 0, .slice none 0 0, .slice none 0 0]), (141, .iface 37 (.int .i64 91))] (by kernel_rfl) ?_
    refine gl_st (st_storeKA (vs := [.int .i64 0, .int .i64 0, .slice none 0 0, .slice none 0 0]) 5 rfl rfl rfl hH rfl rfl (by kernel_rfl) (by kernel_rfl) rfl (by simp) [.int .i64 0, .int .i64 0, .slice none 0 0, .slice none 0 0] rfl ?_)
    clear hH; intro w68 hH
    replace hH : Hp w w68 _ _ [.kmap mb (intK .i64) (delN (kv (withP rs2 p nv)) i), .blk xb 113 [Pp nb2 0, .int .i64 0, .map (some mb)], .grp (ibxOwn 5 (withP rs2 p nv)), .grp (nbox b8 nb2 p), .blk b1 63 [.int .i64 p.idx, .int .i64 p.term, .int .i64 p.n, .int .i64 p.many, .slice Ab p.bytes.length cb], .blk b3 24 [.int .i64 0, .int .i64 0, .slice none 0 0, .slice none 0 0], .blk b8 116 [.int .i64 p.term, .int .i64 p.idx], .row (.slice A (joinI (withP rs2 p nv) i).length c) 5 1 ((joinI (withP rs2 p nv) i).length) (bv (joinI (withP rs2 p nv) i)), .row (.slice A56 (((readV (joinI (withP rs2 p nv) i)).1.conf).length) c57) 5 1 (((readV (joinI (withP rs2 p nv) i)).1.conf).length) (bv ((readV (joinI (withP rs2 p nv) i)).1.conf)), .row (.slice A60 (((readV (joinI (withP rs2 p nv) i)).1.data).length) c61) 5 1 (((readV (joinI (withP rs2 p nv) i)).1.data).length) (bv ((readV (joinI (withP rs2 p nv) i)).1.data)), .blk b64 24 [.int .i64 ((readV (joinI (withP rs2 p nv) i)).1.idx), .int .i64 ((readV (joinI (withP rs2 p nv) i)).1.term), .slice A56 (((readV (joinI (withP rs2 p nv) i)).1.conf).length) c57, .slice A60 (((readV (joinI (withP rs2 p nv) i)).1.data).length) c61]] := hH
    refine gl_ops 2 [(4, Pp b3 0), (5, .bool false), (6, .iface 37 (.int .i64 91))] (by kernel_rfl) ?_
    refine gl_dn rfl ?_
    refine sw_ret ?_
    refine thR ?_
    refine retC3 rfl (RS.cellA hH 5 (by kernel_rfl) rfl rfl (by kernel_rfl) [.int .i64 0, .int .i64 0, .slice none 0 0, .slice none 0 0] rfl rfl) (RS.tmp rfl) (RS.tmp rfl) ?_
    replace hH := hH.pick [3, 6, 0, 1, 2, 4, 5, 7, 8, 9, 10] (by kernel_rfl) (os' := [.grp (nbox b8 nb2 p), .blk b8 116 [.int .i64 p.term, .int .i64 p.idx], .kmap mb (intK .i64) (delN (kv (withP rs2 p nv)) i), .blk xb 113 [Pp nb2 0, .int .i64 0, .map (some mb)], .grp (ibxOwn 5 (withP rs2 p nv)), .blk b1 63 [.int .i64 p.idx, .int .i64 p.term, .int .i64 p.n, .int .i64 p.many, .slice Ab p.bytes.length cb], .blk b3 24 [.int .i64 0, .int .i64 0, .slice none 0 0, .slice none 0 0], .row (.slice A (joinI (withP rs2 p nv) i).length c) 5 1 ((joinI (withP rs2 p nv) i).length) (bv (joinI (withP rs2 p nv) i)), .row (.slice A56 (((readV (joinI (withP rs2 p nv) i)).1.conf).length) c57) 5 1 (((readV (joinI (withP rs2 p nv) i)).1.conf).length) (bv ((readV (joinI (withP rs2 p nv) i)).1.conf)), .row (.slice A60 (((readV (joinI (withP rs2 p nv) i)).1.data).length) c61) 5 1 (((readV (joinI (withP rs2 p nv) i)).1.data).length) (bv ((readV (joinI (withP rs2 p nv) i)).1.data)), .blk b64 24 [.int .i64 ((readV (joinI (withP rs2 p nv) i)).1.idx), .int .i64 ((readV (joinI (withP rs2 p nv) i)).1.term), .slice A56 (((readV (joinI (withP rs2 p nv) i)).1.conf).length) c57, .slice A60 (((readV (joinI (withP rs2 p nv) i)).1.data).length) c61]]) (by kernel_rfl)
    replace hH := nbox_own hH
    replace hH := (hH.sublist (.cons_cons _ (.cons_cons _ (.cons_cons _ (List.nil_sublist _)))))
    replace hH : Hp w w68 _ _ [.blk nb2 116 [.int .i64 p.term, .int .i64 p.idx], .kmap mb (intK .i64) (delN (kv (withP rs2 p nv)) i), .blk xb 113 [Pp nb2 0, .int .i64 0, .map (some mb)]] := hH
    replace hH := hH.nogrp
    replace hH := hH.pick [1, 2, 3, 0] (by kernel_rfl) (os' := [.kmap mb (intK .i64) (delN (kv (withP rs2 p nv)) i), .blk xb 113 [Pp nb2 0, .int .i64 0, .map (some mb)], .grp (ibxOwn 5 []), .blk nb2 116 [.int .i64 p.term, .int .i64 p.idx]]) (by kernel_rfl)
    replace hH := (hH.sublist (.cons_cons _ (.cons_cons _ (.cons_cons _ (.cons_cons _ (List.nil_sublist _))))))
    replace hH : Hp w w68 _ _ [.kmap mb (intK .i64) (delN (kv (withP rs2 p nv)) i), .blk xb 113 [Pp nb2 0, .int .i64 0, .map (some mb)], .grp (ibxOwn 5 []), .blk nb2 116 [.int .i64 p.term, .int .i64 p.idx]] := hH
    replace hH : Hp w w68 _ _ ([.kmap mb (intK .i64) (delN (kv (withP rs2 p nv)) i), .blk xb 113 [Pp nb2 0, .int .i64 0, .map (some mb)], .grp (ibxOwn 5 []), .blk nb2 116 [.int .i64 p.term, .int .i64 p.idx]] ++ []) := hH
    have hr := (show putI ⟨some (tn, ix), mn, rs⟩ p nv = (⟨some (p.term, p.idx), 0, []⟩, Snp.none, false, 91) from by rw [putI_end nv hc1 hbase (by omega), ← hie]; rw [endI_bad2 hrd hnw])
    refine ⟨nv, nb2, delN (kv (withP rs2 p nv)) i, .slice none 0 0, .slice none 0 0, ?_⟩
    rw [hr]
    exact ⟨rfl, fun h => absurd rfl h, (((hH.close).nilRow 5 1).nilRow 5 1).turned⟩
  refine sw_cv 139 (.bool false) (by rw [hc12]) rfl ?_
  try simp only [Bool.not_eq_false', beq_iff_eq] at hc12
  have hww : (readV (joinI (withP rs2 p nv) i)).1.term = p.term ∧ (readV (joinI (withP rs2 p nv) i)).1.idx = p.idx := by have h9 := hc12; simp only [Bool.and_eq_true, beq_iff_eq] at h9; exact ⟨h9.1.symm, h9.2.symm⟩
  refine sw_skip ?_
  refine sw_next ?_
  refine sw_sr ?_
  refine gl_q rfl rfl rfl (rd_loadKA (m := 4) 10 (by kernel_rfl) hH rfl rfl (by kernel_rfl) [.int .i64 ((readV (joinI (withP rs2 p nv) i)).1.idx), .int .i64 ((readV (joinI (withP rs2 p nv) i)).1.term), .slice A56 (((readV (joinI (withP rs2 p nv) i)).1.conf).length) c57, .slice A60 (((readV (joinI (withP rs2 p nv) i)).1.data).length) c61] rfl rfl) ?_
  refine gl_st (st_storeKA (vs := [.int .i64 ((readV (joinI (withP rs2 p nv) i)).1.idx), .int .i64 ((readV (joinI (withP rs2 p nv) i)).1.term), .slice A56 (((readV (joinI (withP rs2 p nv) i)).1.conf).length) c57, .slice A60 (((readV (joinI (withP rs2 p nv) i)).1.data).length) c61]) 5 rfl rfl rfl hH rfl rfl (by kernel_rfl) (by kernel_rfl) rfl (by simp) [.int .i64 ((readV (joinI (withP rs2 p nv) i)).1.idx), .int .i64 ((readV (joinI (withP rs2 p nv) i)).1.term), .slice A56 (((readV (joinI (withP rs2 p nv) i)).1.conf).length) c57, .slice A60 (((readV (joinI (withP rs2 p nv) i)).1.data).length) c61] rfl ?_)
  clear hH; intro w69 hH
  replace hH : Hp w w69 _ _ [.kmap mb (intK .i64) (delN (kv (withP rs2 p nv)) i), .blk xb 113 [Pp nb2 0, .int .i64 0, .map (some mb)], .grp (ibxOwn 5 (withP rs2 p nv)), .grp (nbox b8 nb2 p), .blk b1 63 [.int .i64 p.idx, .int .i64 p.term, .int .i64 p.n, .int .i64 p.many, .slice Ab p.bytes.length cb], .blk b3 24 [.int .i64 ((readV (joinI (withP rs2 p nv) i)).1.idx), .int .i64 ((readV (joinI (withP rs2 p nv) i)).1.term), .slice A56 (((readV (joinI (withP rs2 p nv) i)).1.conf).length) c57, .slice A60 (((readV (joinI (withP rs2 p nv) i)).1.data).length) c61], .blk b8 116 [.int .i64 p.term, .int .i64 p.idx], .row (.slice A (joinI (withP rs2 p nv) i).length c) 5 1 ((joinI (withP rs2 p nv) i).length) (bv (joinI (withP rs2 p nv) i)), .row (.slice A56 (((readV (joinI (withP rs2 p nv) i)).1.conf).length) c57) 5 1 (((readV (joinI (withP rs2 p nv) i)).1.conf).length) (bv ((readV (joinI (withP rs2 p nv) i)).1.conf)), .row (.slice A60 (((readV (joinI (withP rs2 p nv) i)).1.data).length) c61) 5 1 (((readV (joinI (withP rs2 p nv) i)).1.data).length) (bv ((readV (joinI (withP rs2 p nv) i)).1.data)), .blk b64 24 [.int .i64 ((readV (joinI (withP rs2 p nv) i)).1.idx), .int .i64 ((readV (joinI (withP rs2 p nv) i)).1.term), .slice A56 (((readV (joinI (withP rs2 p nv) i)).1.conf).length) c57, .slice A60 (((readV (joinI (withP rs2 p nv) i)).1.data).length) c61]] := hH
  refine gl_ops 2 [(4, Pp b3 0), (5, .bool true), (6, .nilIface)] (by kernel_rfl) ?_
  refine gl_dn rfl ?_
  refine sw_ret ?_
  refine retC3 rfl (RS.cellA hH 5 (by kernel_rfl) rfl rfl (by kernel_rfl) [.int .i64 ((readV (joinI (withP rs2 p nv) i)).1.idx), .int .i64 ((readV (joinI (withP rs2 p nv) i)).1.term), .slice A56 (((readV (joinI (withP rs2 p nv) i)).1.conf).length) c57, .slice A60 (((readV (joinI (withP rs2 p nv) i)).1.data).length) c61] rfl rfl) (RS.tmp rfl) (RS.tmp rfl) ?_
  replace hH := hH.pick [3, 6, 0, 1, 2, 4, 5, 7, 8, 9, 10] (by kernel_rfl) (os' := [.grp (nbox b8 nb2 p), .blk b8 116 [.int .i64 p.term, .int .i64 p.idx], .kmap mb (intK .i64) (delN (kv (withP rs2 p nv)) i), .blk xb 113 [Pp nb2 0, .int .i64 0, .map (some mb)], .grp (ibxOwn 5 (withP rs2 p nv)), .blk b1 63 [.int .i64 p.idx, .int .i64 p.term, .int .i64 p.n, .int .i64 p.many, .slice Ab p.bytes.length cb], .blk b3 24 [.int .i64 ((readV (joinI (withP rs2 p nv) i)).1.idx), .int .i64 ((readV (joinI (withP rs2 p nv) i)).1.term), .slice A56 (((readV (joinI (withP rs2 p nv) i)).1.conf).length) c57, .slice A60 (((readV (joinI (withP rs2 p nv) i)).1.data).length) c61], .row (.slice A (joinI (withP rs2 p nv) i).length c) 5 1 ((joinI (withP rs2 p nv) i).length) (bv (joinI (withP rs2 p nv) i)), .row (.slice A56 (((readV (joinI (withP rs2 p nv) i)).1.conf).length) c57) 5 1 (((readV (joinI (withP rs2 p nv) i)).1.conf).length) (bv ((readV (joinI (withP rs2 p nv) i)).1.conf)), .row (.slice A60 (((readV (joinI (withP rs2 p nv) i)).1.data).length) c61) 5 1 (((readV (joinI (withP rs2 p nv) i)).1.data).length) (bv ((readV (joinI (withP rs2 p nv) i)).1.data)), .blk b64 24 [.int .i64 ((readV (joinI (withP rs2 p nv) i)).1.idx), .int .i64 ((readV (joinI (withP rs2 p nv) i)).1.term), .slice A56 (((readV (joinI (withP rs2 p nv) i)).1.conf).length) c57, .slice A60 (((readV (joinI (withP rs2 p nv) i)).1.data).length) c61]]) (by kernel_rfl)
  replace hH := nbox_own hH
  replace hH := (hH.sublist (.cons_cons _ (.cons_cons _ (.cons_cons _ (.cons _ (.cons _ (.cons _ (.cons _ (.cons_cons _ (.cons_cons _ (List.nil_sublist _)))))))))))
  replace hH : Hp w w69 _ _ [.blk nb2 116 [.int .i64 p.term, .int .i64 p.idx], .kmap mb (intK .i64) (delN (kv (withP rs2 p nv)) i), .blk xb 113 [Pp nb2 0, .int .i64 0, .map (some mb)], .row (.slice A56 (((readV (joinI (withP rs2 p nv) i)).1.conf).length) c57) 5 1 (((readV (joinI (withP rs2 p nv) i)).1.conf).length) (bv ((readV (joinI (withP rs2 p nv) i)).1.conf)), .row (.slice A60 (((readV (joinI (withP rs2 p nv) i)).1.data).length) c61) 5 1 (((readV (joinI (withP rs2 p nv) i)).1.data).length) (bv ((readV (joinI (withP rs2 p nv) i)).1.data))] := hH
  replace hH := hH.nogrp
  replace hH := hH.pick [1, 2, 5, 0, 3, 4] (by kernel_rfl) (os' := [.kmap mb (intK .i64) (delN (kv (withP rs2 p nv)) i), .blk xb 113 [Pp nb2 0, .int .i64 0, .map (some mb)], .grp (ibxOwn 5 []), .blk nb2 116 [.int .i64 p.term, .int .i64 p.idx], .row (.slice A56 (((readV (joinI (withP rs2 p nv) i)).1.conf).length) c57) 5 1 (((readV (joinI (withP rs2 p nv) i)).1.conf).length) (bv ((readV (joinI (withP rs2 p nv) i)).1.conf)), .row (.slice A60 (((readV (joinI (withP rs2 p nv) i)).1.data).length) c61) 5 1 (((readV (joinI (withP rs2 p nv) i)).1.data).length) (bv ((readV (joinI (withP rs2 p nv) i)).1.data))]) (by kernel_rfl)
  replace hH := (hH.sublist (.cons_cons _ (.cons_cons _ (.cons_cons _ (.cons_cons _ (.cons_cons _ (.cons_cons _ (List.nil_sublist _))))))))
  replace hH : Hp w w69 _ _ [.kmap mb (intK .i64) (delN (kv (withP rs2 p nv)) i), .blk xb 113 [Pp nb2 0, .int .i64 0, .map (some mb)], .grp (ibxOwn 5 []), .blk nb2 116 [.int .i64 p.term, .int .i64 p.idx], .row (.slice A56 (((readV (joinI (withP rs2 p nv) i)).1.conf).length) c57) 5 1 (((readV (joinI (withP rs2 p nv) i)).1.conf).length) (bv ((readV (joinI (withP rs2 p nv) i)).1.conf)), .row (.slice A60 (((readV (joinI (withP rs2 p nv) i)).1.data).length) c61) 5 1 (((readV (joinI (withP rs2 p nv) i)).1.data).length) (bv ((readV (joinI (withP rs2 p nv) i)).1.data))] := hH
  replace hH : Hp w w69 _ _ ([.kmap mb (intK .i64) (delN (kv (withP rs2 p nv)) i), .blk xb 113 [Pp nb2 0, .int .i64 0, .map (some mb)], .grp (ibxOwn 5 []), .blk nb2 116 [.int .i64 p.term, .int .i64 p.idx]] ++ [.row (.slice A56 (((readV (joinI (withP rs2 p nv) i)).1.conf).length) c57) 5 1 (((readV (joinI (withP rs2 p nv) i)).1.conf).length) (bv ((readV (joinI (withP rs2 p nv) i)).1.conf)), .row (.slice A60 (((readV (joinI (withP rs2 p nv) i)).1.data).length) c61) 5 1 (((readV (joinI (withP rs2 p nv) i)).1.data).length) (bv ((readV (joinI (withP rs2 p nv) i)).1.data))]) := hH
  have hr := (show putI ⟨some (tn, ix), mn, rs⟩ p nv = (⟨some (p.term, p.idx), 0, []⟩, (readV (joinI (withP rs2 p nv) i)).1, true, 0) from by rw [putI_end nv hc1 hbase (by omega), ← hie]; rw [endI_ok hrd hww])
  refine ⟨nv, nb2, delN (kv (withP rs2 p nv)) i, .slice A56 (((readV (joinI (withP rs2 p nv) i)).1.conf).length) c57, .slice A60 (((readV (joinI (withP rs2 p nv) i)).1.data).length) c61, ?_⟩
  rw [hr]
  exact ⟨rfl, fun h => absurd rfl h, (hH.close).turned⟩
theorem PutN_ct (xb nb mb : Nat)  (l : List (Int × Value)) (p : Prt) (vb : Value) (w : World) (hM : Mine w [.grp (ibxO xb nb mb ⟨none, 0, []⟩ l)]) (hb : RB (off w (blksOf [.grp (ibxO xb nb mb ⟨none, 0, []⟩ l)])) vb p.bytes) (hp : p.I64) :
    Fun Tryz.prog 25 [.pointer (some ⟨xb, 0, none⟩), .agg #[.int .i64 p.idx, .int .i64 p.term, .int .i64 p.n, .int .i64 p.many, vb]] w fun v w' => ∃ nv nb' l' v1 v2,
      v = .tuple #[.agg #[.int .i64 (putI ⟨none, 0, []⟩ p nv).2.1.idx, .int .i64 (putI ⟨none, 0, []⟩ p nv).2.1.term, v1, v2], .bool (putI ⟨none, 0, []⟩ p nv).2.2.1, errV (putI ⟨none, 0, []⟩ p nv).2.2.2] ∧ ((putI ⟨none, 0, []⟩ p nv).1.many ≠ 0 → l' = kv (putI ⟨none, 0, []⟩ p nv).1.rs) ∧
      Turn w w' [.grp (ibxO xb nb mb ⟨none, 0, []⟩ l)] [.grp (ibxO xb nb' mb (putI ⟨none, 0, []⟩ p nv).1 l'), .row v1 5 1 (putI ⟨none, 0, []⟩ p nv).2.1.conf.length (bv (putI ⟨none, 0, []⟩ p nv).2.1.conf), .row v2 5 1 (putI ⟨none, 0, []⟩ p nv).2.1.data.length (bv (putI ⟨none, 0, []⟩ p nv).2.1.data)] := by
  obtain ⟨Ab, cb, rfl, hb1, hb2⟩ := hb.row.form
  have hp9 := hp
  obtain ⟨hp1, hp2, hp3, hp4⟩ := hp9
  have hl : (0 : Nat) ≠ 0 → l = kv [] := fun h => absurd rfl h
  refine fun_of_sw Tryz.func25 rfl 143 rfl rfl ?_
  have hH : Hp w w (off w (blksOf [.grp (ibxO xb nb mb ⟨none, 0, []⟩ l)])) (blksOf [.grp (ibxO xb nb mb ⟨none, 0, []⟩ l)]) (ibxO xb nb mb ⟨none, 0, []⟩ l ++ []) := (Hp.start_mine hM).open_
  replace hH : Hp w w _ _ [.kmap mb (intK .i64) l, .blk xb 113 [.pointer none, .int .i64 ((0 : Nat) : Int), .map (some mb)], .grp (ibxOwn 5 [])] := hH
  refine sw_sr ?_
  refine gl_st (st_boxH (cs := [.int .i64 p.idx, .int .i64 p.term, .int .i64 p.n, .int .i64 p.many, .slice Ab p.bytes.length cb]) rfl rfl rfl rfl hH ?_)
  clear hH; intro b1 w2 hH
  refine gl_st (st_allocH rfl rfl rfl (cs := [.int .i64 0, .int .i64 0, .slice none 0 0, .slice none 0 0]) (by kernel_rfl) hH ?_)
  clear hH; intro b3 w4 hH
  refine gl_ops 2 [(0, Pp xb 0), (3, Pp b1 0), (4, Pp b3 0)] (by kernel_rfl) ?_
  refine gl_dn rfl ?_
  refine sw_seq ?_
  refine sw_sr ?_
  refine gl_q rfl rfl rfl (rd_loadKA (m := 5) 3 (by kernel_rfl) hH rfl rfl (by kernel_rfl) [.int .i64 p.idx, .int .i64 p.term, .int .i64 p.n, .int .i64 p.many, .slice Ab p.bytes.length cb] rfl rfl) ?_
  refine gl_st (st_call rfl rfl rfl (by kernel_rfl) rfl (May_ct p _ _ (hb.mono hH.zin) hp) ?_)
  rintro _ w5 ⟨rfl, hF6⟩
  replace hH := hH.call hF6; clear hF6
  refine gl_ops 1 [(0, Pp xb 0), (3, Pp b1 0), (4, Pp b3 0), (16, .bool (!(mayP p)))] (by kernel_rfl) ?_
  refine gl_dn rfl ?_
  refine sw_cond rfl rfl (fun hc1 => ?_) (fun hc1 => ?_)
  ·
    refine sw_cv 16 (.bool true) (by rw [hc1]) rfl ?_
    try simp only [Bool.not_eq_true'] at hc1
    refine sw_sr ?_
    refine gl_ops 2 [(4, Pp b3 0), (17, .agg #[.int .i64 0, .int .i64 0, .slice none 0 0, .slice none 0 0]), (18, .iface 37 (.int .i64 1))] (by kernel_rfl) ?_
    refine gl_st (st_storeKA (vs := [.int .i64 0, .int .i64 0, .slice none 0 0, .slice none 0 0]) 4 rfl rfl rfl hH rfl rfl (by kernel_rfl) (by kernel_rfl) rfl (by simp) [.int .i64 0, .int .i64 0, .slice none 0 0, .slice none 0 0] rfl ?_)
    clear hH; intro w7 hH
    refine gl_ops 2 [(4, Pp b3 0), (5, .bool false), (6, .iface 37 (.int .i64 1))] (by kernel_rfl) ?_
    refine gl_dn rfl ?_
    refine sw_ret ?_
    refine thR ?_
    refine retC3 rfl (RS.cellA hH 4 (by kernel_rfl) rfl rfl (by kernel_rfl) [.int .i64 0, .int .i64 0, .slice none 0 0, .slice none 0 0] rfl rfl) (RS.tmp rfl) (RS.tmp rfl) ?_
    replace hH := (hH.sublist (.cons_cons _ (.cons_cons _ (.cons_cons _ (List.nil_sublist _)))))
    replace hH : Hp w w7 _ _ [.kmap mb (intK .i64) l, .blk xb 113 [.pointer none, .int .i64 ((0 : Nat) : Int), .map (some mb)], .grp (ibxOwn 5 [])] := hH
    replace hH : Hp w w7 _ _ ([.kmap mb (intK .i64) l, .blk xb 113 [.pointer none, .int .i64 ((0 : Nat) : Int), .map (some mb)], .grp (ibxOwn 5 [])] ++ []) := hH
    have hr := putI_no (S := ⟨none, 0, []⟩) (p := p) (.slice none 0 0) hc1
    refine ⟨(Value.slice none 0 0), nb, l, .slice none 0 0, .slice none 0 0, ?_⟩
    rw [hr]
    exact ⟨rfl, hl, (((hH.close).nilRow 5 1).nilRow 5 1).turned⟩
  refine sw_cv 16 (.bool false) (by rw [hc1]) rfl ?_
  try simp only [Bool.not_eq_false'] at hc1
  obtain ⟨q1, q2, q3, q4, q5, q6⟩ := mayP_true hc1
  refine sw_skip ?_
  refine sw_next ?_
  refine sw_sr ?_
  refine gl_ops 1 [(0, Pp xb 0), (3, Pp b1 0), (4, Pp b3 0), (19, Pp b1 1)] (by kernel_rfl) ?_
  refine gl_q rfl rfl rfl (rd_loadK 3 (by kernel_rfl) hH rfl rfl rfl) ?_
  refine gl_ops 1 [(0, Pp xb 0), (3, Pp b1 0), (4, Pp b3 0), (20, .int .i64 p.term), (21, Pp b1 0)] (by kernel_rfl) ?_
  refine gl_q rfl rfl rfl (rd_loadK 3 (by kernel_rfl) hH rfl rfl rfl) ?_
  refine gl_ops 1 [(0, Pp xb 0), (3, Pp b1 0), (4, Pp b3 0), (23, .agg #[.int .i64 p.term, .int .i64 p.idx])] (by kernel_rfl) ?_
  refine gl_st (st_allocH rfl rfl rfl (cs := [.int .i64 0, .int .i64 0]) (by kernel_rfl) hH ?_)
  clear hH; intro b8 w9 hH
  refine gl_st (st_storeKA (vs := [.int .i64 p.term, .int .i64 p.idx]) 5 rfl rfl rfl hH rfl rfl (by kernel_rfl) (by kernel_rfl) rfl (by simp) [.int .i64 p.term, .int .i64 p.idx] rfl ?_)
  clear hH; intro w10 hH
  refine gl_dn rfl ?_
  refine sw_cut (γ := Nat × List (Int × Value × List UInt8)) (fun (nb2, rs2) => [(0, Pp xb 0), (3, Pp b1 0), (4, Pp b3 0), (7, Pp b8 0)]) (fun (nb2, rs2) w_ => (baseI ⟨none, 0, []⟩ p = some rs2) ∧ (rs2.length < p.many.toNat) ∧ (∀ r ∈ rs2, r.2.2.length ≤ 512) ∧ Hp w w_ (off w (blksOf [.grp (ibxO xb nb mb ⟨none, 0, []⟩ l)])) (blksOf [.grp (ibxO xb nb mb ⟨none, 0, []⟩ l)]) [.kmap mb (intK .i64) (kv rs2), .blk xb 113 [Pp nb2 0, Ni p.many.toNat, .map (some mb)], .grp (ibxOwn 5 rs2), .grp (nbox b8 nb2 p), .blk b1 63 [.int .i64 p.idx, .int .i64 p.term, .int .i64 p.n, .int .i64 p.many, .slice Ab p.bytes.length cb], .blk b3 24 [.int .i64 0, .int .i64 0, .slice none 0 0, .slice none 0 0], .blk b8 116 [.int .i64 p.term, .int .i64 p.idx]]) ?_ ?_
  ·
    refine sw_block ?_
    refine sw_seq ?_
    refine sw_sr ?_
    refine gl_ops 3 [(0, Pp xb 0), (3, Pp b1 0), (4, Pp b3 0), (7, Pp b8 0), (27, Pp xb 0)] (by kernel_rfl) ?_
    refine gl_q rfl rfl rfl (rd_loadK 1 (by kernel_rfl) hH rfl rfl rfl) ?_
    refine gl_ops 2 [(0, Pp xb 0), (3, Pp b1 0), (4, Pp b3 0), (7, Pp b8 0), (24, .bool true)] (by kernel_rfl) ?_
    refine gl_dn rfl ?_
    refine sw_true rfl rfl ?_
    refine sw_skip ?_
    refine sw_next ?_
    refine sw_true rfl rfl ?_
    refine sw_seq ?_
    refine sw_draw (by kernel_rfl) (fun w_ => Hp w w_ (off w (blksOf [.grp (ibxO xb nb mb ⟨none, 0, []⟩ l)])) (blksOf [.grp (ibxO xb nb mb ⟨none, 0, []⟩ l)]) [.kmap mb (intK .i64) l, .grp (ibxOwn 5 []), .blk b1 63 [.int .i64 p.idx, .int .i64 p.term, .int .i64 p.n, .int .i64 p.many, .slice Ab p.bytes.length cb], .blk b3 24 [.int .i64 0, .int .i64 0, .slice none 0 0, .slice none 0 0], .blk b8 116 [.int .i64 p.term, .int .i64 p.idx]]) ?_
    replace hH := hH.drew
    generalize { w10 with drawn := w10.drawn + 1 } = w11 at hH ⊢
    have hS9 := hH.sublist (.cons_cons _ (.cons _ (.cons_cons _ (.cons_cons _ (.cons_cons _ (.cons_cons _ (List.nil_sublist _)))))))
    refine gd_pure 0 rfl (by kernel_rfl) (PQ.th (PQ.bk (PQ.th PQ.body))) hS9 rfl rfl (Pp xb 0) (by kernel_rfl) ?_
    refine gd_pure 1 rfl (by kernel_rfl) (PQ.th (PQ.bk (PQ.th PQ.body))) hS9 rfl rfl (Pp xb 0) (by kernel_rfl) ?_
    refine gd_pure 2 rfl (by kernel_rfl) (PQ.th (PQ.bk (PQ.th PQ.body))) hS9 rfl rfl (Pp b1 3) (by kernel_rfl) ?_
    refine gd_keep [(0, Pp xb 0), (3, Pp b1 0), (4, Pp b3 0), (7, Pp b8 0), (38, Pp xb 0), (39, Pp xb 0), (40, Pp b1 3)] (by kernel_rfl) ?_
    refine gd_q 3 rfl (by kernel_rfl) (PQ.th (PQ.bk (PQ.th PQ.body))) hS9 rfl rfl (fun w_ hS => (rd_loadK 2 (by kernel_rfl) hS rfl rfl rfl)) ?_
    refine gd_pure 4 rfl (by kernel_rfl) (PQ.th (PQ.bk (PQ.th PQ.body))) hS9 rfl rfl (Pp xb 0) (by kernel_rfl) ?_
    refine gd_pure 5 rfl (by kernel_rfl) (PQ.th (PQ.bk (PQ.th PQ.body))) hS9 rfl rfl (Pp xb 0) (by kernel_rfl) ?_
    refine gd_keep [(0, Pp xb 0), (3, Pp b1 0), (4, Pp b3 0), (7, Pp b8 0), (39, Pp xb 0), (41, .int .i64 p.many), (43, Pp xb 0)] (by kernel_rfl) ?_
    refine gd_st 6 (by kernel_rfl) (st_storeK (v := Pp b8 0) 1 rfl rfl rfl hH rfl rfl rfl (by kernel_rfl) rfl (by simp) ?_)
    clear hH; intro w12 hH
    replace hS9 := hH.sublist (.cons_cons _ (.cons _ (.cons_cons _ (.cons_cons _ (.cons_cons _ (.cons_cons _ (List.nil_sublist _)))))))
    refine ⟨hS9, ?_⟩
    refine gd_keep [(0, Pp xb 0), (3, Pp b1 0), (4, Pp b3 0), (7, Pp b8 0), (39, Pp xb 0), (41, .int .i64 p.many)] (by kernel_rfl) ?_
    refine gd_pure 7 rfl (by kernel_rfl) (PQ.th (PQ.bk (PQ.th PQ.body))) hS9 rfl rfl (Pp xb 0) (by kernel_rfl) ?_
    refine gd_pure 8 rfl (by kernel_rfl) (PQ.th (PQ.bk (PQ.th PQ.body))) hS9 rfl rfl (Pp xb 1) (by kernel_rfl) ?_
    refine gd_st 9 (by kernel_rfl) (st_storeK (v := .int .i64 p.many) 1 rfl rfl rfl hH rfl rfl rfl (by kernel_rfl) rfl (by simp) ?_)
    clear hH; intro w13 hH
    replace hS9 := hH.sublist (.cons_cons _ (.cons _ (.cons_cons _ (.cons_cons _ (.cons_cons _ (.cons_cons _ (List.nil_sublist _)))))))
    refine ⟨hS9, ?_⟩
    refine gd_keep [(0, Pp xb 0), (3, Pp b1 0), (4, Pp b3 0), (7, Pp b8 0)] (by kernel_rfl) ?_
    refine gd_done (by kernel_rfl) ?_
    refine at_sub [(0, Pp xb 0), (3, Pp b1 0), (4, Pp b3 0), (7, Pp b8 0)] (Sub.of_eq (by kernel_rfl)) ?_
    refine sw_next ?_
    refine sw_region ?_
    refine gl_ops 3 [(0, Pp xb 0), (3, Pp b1 0), (4, Pp b3 0), (7, Pp b8 0), (48, Pp xb 2)] (by kernel_rfl) ?_
    refine gl_q rfl rfl rfl (rd_loadK 1 (by kernel_rfl) hH rfl rfl rfl) ?_
    refine gl_st (st_mapclear (kt := 3) (e := 22) 0 rfl rfl rfl (by kernel_rfl) hH rfl rfl ?_)
    clear hH; intro w14 hH
    refine gl_done rfl ?_
    refine bkN ?_
    refine cut_end (b8, []) (Sub.of_eq (by kernel_rfl)) ?_
    replace hH := hH.blk_eq 1 (cs' := [.pointer (some ⟨b8, 0, none⟩), .int .i64 ((p.many.toNat : Nat) : Int), .map (some mb)]) rfl (by rw [Int.toNat_of_nonneg (by omega)] <;> rfl)
    replace hH := (hH.sublist (.cons_cons _ (.cons_cons _ (.cons _ (.cons_cons _ (.cons_cons _ (.cons_cons _ (List.nil_sublist _))))))))
    replace hH : Hp w w14 _ _ [.kmap mb (intK .i64) [], .blk xb 113 [Pp b8 0, Ni p.many.toNat, .map (some mb)], .blk b1 63 [.int .i64 p.idx, .int .i64 p.term, .int .i64 p.n, .int .i64 p.many, .slice Ab p.bytes.length cb], .blk b3 24 [.int .i64 0, .int .i64 0, .slice none 0 0, .slice none 0 0], .blk b8 116 [.int .i64 p.term, .int .i64 p.idx]] := hH
    replace hH := hH.nogrp
    replace hH := hH.nogrp
    replace hH := hH.pick [0, 1, 5, 6, 2, 3, 4] (by kernel_rfl) (os' := [.kmap mb (intK .i64) [], .blk xb 113 [Pp b8 0, Ni p.many.toNat, .map (some mb)], .grp [], .grp [], .blk b1 63 [.int .i64 p.idx, .int .i64 p.term, .int .i64 p.n, .int .i64 p.many, .slice Ab p.bytes.length cb], .blk b3 24 [.int .i64 0, .int .i64 0, .slice none 0 0, .slice none 0 0], .blk b8 116 [.int .i64 p.term, .int .i64 p.idx]]) (by kernel_rfl)
    exact ⟨rfl, by simp; omega, by simp, hH.cast (by simp [nbox, ibxOwn, kv])⟩
  clear hH
  rintro ⟨nb2, rs2⟩ w15 ⟨hbase, hfew2, hsh2, hH⟩
  refine sw_keep [(0, Pp xb 0), (3, Pp b1 0), (4, Pp b3 0), (7, Pp b8 0)] (by kernel_rfl) ?_
  refine sw_cut (γ := Value) (fun nv => [(0, Pp xb 0), (4, Pp b3 0), (7, Pp b8 0)]) (fun nv w_ => Hp w w_ (off w (blksOf [.grp (ibxO xb nb mb ⟨none, 0, []⟩ l)])) (blksOf [.grp (ibxO xb nb mb ⟨none, 0, []⟩ l)]) [.kmap mb (intK .i64) (kv (withP rs2 p nv)), .blk xb 113 [Pp nb2 0, Ni p.many.toNat, .map (some mb)], .grp (ibxOwn 5 (withP rs2 p nv)), .grp (nbox b8 nb2 p), .blk b1 63 [.int .i64 p.idx, .int .i64 p.term, .int .i64 p.n, .int .i64 p.many, .slice Ab p.bytes.length cb], .blk b3 24 [.int .i64 0, .int .i64 0, .slice none 0 0, .slice none 0 0], .blk b8 116 [.int .i64 p.term, .int .i64 p.idx]]) ?_ ?_
  ·
    refine sw_seq ?_
    refine sw_draw (by kernel_rfl) (fun w_ => Hp w w_ (off w (blksOf [.grp (ibxO xb nb mb ⟨none, 0, []⟩ l)])) (blksOf [.grp (ibxO xb nb mb ⟨none, 0, []⟩ l)]) [.kmap mb (intK .i64) (kv rs2), .blk xb 113 [Pp nb2 0, Ni p.many.toNat, .map (some mb)], .grp (ibxOwn 5 rs2), .grp (nbox b8 nb2 p), .blk b1 63 [.int .i64 p.idx, .int .i64 p.term, .int .i64 p.n, .int .i64 p.many, .slice Ab p.bytes.length cb], .blk b3 24 [.int .i64 0, .int .i64 0, .slice none 0 0, .slice none 0 0], .blk b8 116 [.int .i64 p.term, .int .i64 p.idx]]) ?_
    replace hH := hH.drew
    generalize { w15 with drawn := w15.drawn + 1 } = w16 at hH ⊢
    have hS9 := hH.sublist (.cons_cons _ (.cons_cons _ (.cons_cons _ (.cons_cons _ (.cons_cons _ (.cons_cons _ (.cons_cons _ (List.nil_sublist _))))))))
    refine gd_pure 0 rfl (by kernel_rfl) (PQ.th (PQ.th PQ.body)) hS9 rfl rfl (Pp xb 0) (by kernel_rfl) ?_
    refine gd_pure 1 rfl (by kernel_rfl) (PQ.th (PQ.th PQ.body)) hS9 rfl rfl (Pp xb 0) (by kernel_rfl) ?_
    refine gd_pure 2 rfl (by kernel_rfl) (PQ.th (PQ.th PQ.body)) hS9 rfl rfl (Pp xb 2) (by kernel_rfl) ?_
    refine gd_keep [(0, Pp xb 0), (3, Pp b1 0), (4, Pp b3 0), (7, Pp b8 0), (71, Pp xb 2)] (by kernel_rfl) ?_
    refine gd_q 3 rfl (by kernel_rfl) (PQ.th (PQ.th PQ.body)) hS9 rfl rfl (fun w_ hS => (rd_loadK 1 (by kernel_rfl) hS rfl rfl rfl)) ?_
    refine gd_pure 4 rfl (by kernel_rfl) (PQ.th (PQ.th PQ.body)) hS9 rfl rfl (Pp b1 2) (by kernel_rfl) ?_
    refine gd_q 5 rfl (by kernel_rfl) (PQ.th (PQ.th PQ.body)) hS9 rfl rfl (fun w_ hS => (rd_loadK 4 (by kernel_rfl) hS rfl rfl rfl)) ?_
    refine gd_keep [(0, Pp xb 0), (3, Pp b1 0), (4, Pp b3 0), (7, Pp b8 0), (72, .map (some mb)), (74, .int .i64 p.n)] (by kernel_rfl) ?_
    refine gd_q 6 rfl (by kernel_rfl) (PQ.th (PQ.th PQ.body)) hS9 rfl rfl (fun w_ hS => (rd_mapgetOk (kt := 3) (e := 22) (zv := .slice none 0 0) 0 (by kernel_rfl) (by kernel_rfl) (intK_key .i64) (by kernel_rfl) hS rfl rfl (p.n : Int) rfl)) ?_
    refine gd_pure 7 rfl (by kernel_rfl) (PQ.th (PQ.th PQ.body)) hS9 rfl rfl (.tuple #[((kget (kv rs2) (p.n : Int)).getD (.slice none 0 0)), .bool ((kget (kv rs2) (p.n : Int)).isSome)]) (by kernel_rfl) ?_
    refine gd_pure 8 rfl (by kernel_rfl) (PQ.th (PQ.th PQ.body)) hS9 rfl rfl (((kget (kv rs2) (p.n : Int)).getD (.slice none 0 0))) (by kernel_rfl) ?_
    refine gd_keep [(0, Pp xb 0), (3, Pp b1 0), (4, Pp b3 0), (7, Pp b8 0), (68, .tuple #[((kget (kv rs2) (p.n : Int)).getD (.slice none 0 0)), .bool ((kget (kv rs2) (p.n : Int)).isSome)]), (76, ((kget (kv rs2) (p.n : Int)).getD (.slice none 0 0)))] (by kernel_rfl) ?_
    refine gd_pure 9 rfl (by kernel_rfl) (PQ.th (PQ.th PQ.body)) hS9 rfl rfl (.bool ((kget (kv rs2) (p.n : Int)).isSome)) (by kernel_rfl) ?_
    refine gd_pure 10 rfl (by kernel_rfl) (PQ.th (PQ.th PQ.body)) hS9 rfl rfl (((kget (kv rs2) (p.n : Int)).getD (.slice none 0 0))) (by kernel_rfl) ?_
    refine gd_pure 11 rfl (by kernel_rfl) (PQ.th (PQ.th PQ.body)) hS9 rfl rfl (.bool ((kget (kv rs2) (p.n : Int)).isSome)) (by kernel_rfl) ?_
    refine gd_keep [(0, Pp xb 0), (3, Pp b1 0), (4, Pp b3 0), (7, Pp b8 0), (9, .bool ((kget (kv rs2) (p.n : Int)).isSome))] (by kernel_rfl) ?_
    refine gd_done (by kernel_rfl) ?_
    refine at_sub [(0, Pp xb 0), (3, Pp b1 0), (4, Pp b3 0), (7, Pp b8 0), (9, .bool ((kget (kv rs2) (p.n : Int)).isSome))] (Sub.of_eq (by kernel_rfl)) ?_
    refine sw_next ?_
    refine sw_sr ?_
    refine gl_ops 2 [(0, Pp xb 0), (3, Pp b1 0), (4, Pp b3 0), (7, Pp b8 0), (79, .bool (!((kget (kv rs2) (p.n : Int)).isSome)))] (by kernel_rfl) ?_
    refine gl_dn rfl ?_
    refine sw_cond rfl rfl (fun hc4 => ?_) (fun hc4 => ?_)
    ·
      refine sw_cv 79 (.bool true) (by rw [hc4]) rfl ?_
      try simp only [Bool.not_eq_true'] at hc4
      refine sw_draw (by kernel_rfl) (fun w_ => Hp w w_ (off w (blksOf [.grp (ibxO xb nb mb ⟨none, 0, []⟩ l)])) (blksOf [.grp (ibxO xb nb mb ⟨none, 0, []⟩ l)]) [.blk xb 113 [Pp nb2 0, Ni p.many.toNat, .map (some mb)], .grp (ibxOwn 5 rs2), .grp (nbox b8 nb2 p), .blk b1 63 [.int .i64 p.idx, .int .i64 p.term, .int .i64 p.n, .int .i64 p.many, .slice Ab p.bytes.length cb], .blk b3 24 [.int .i64 0, .int .i64 0, .slice none 0 0, .slice none 0 0], .blk b8 116 [.int .i64 p.term, .int .i64 p.idx]]) ?_
      replace hH := hH.drew
      generalize { w16 with drawn := w16.drawn + 1 } = w17 at hH ⊢
      have hS9 := hH.sublist (.cons _ (.cons_cons _ (.cons_cons _ (.cons_cons _ (.cons_cons _ (.cons_cons _ (.cons_cons _ (List.nil_sublist _))))))))
      refine gd_pure 0 rfl (by kernel_rfl) (PQ.th PQ.body) hS9 rfl rfl (Pp xb 0) (by kernel_rfl) ?_
      refine gd_pure 1 rfl (by kernel_rfl) (PQ.th PQ.body) hS9 rfl rfl (Pp xb 0) (by kernel_rfl) ?_
      refine gd_pure 2 rfl (by kernel_rfl) (PQ.th PQ.body) hS9 rfl rfl (Pp xb 2) (by kernel_rfl) ?_
      refine gd_keep [(0, Pp xb 0), (3, Pp b1 0), (4, Pp b3 0), (7, Pp b8 0), (82, Pp xb 2)] (by kernel_rfl) ?_
      refine gd_q 3 rfl (by kernel_rfl) (PQ.th PQ.body) hS9 rfl rfl (fun w_ hS => (rd_loadK 0 (by kernel_rfl) hS rfl rfl rfl)) ?_
      refine gd_pure 4 rfl (by kernel_rfl) (PQ.th PQ.body) hS9 rfl rfl (Pp b1 2) (by kernel_rfl) ?_
      refine gd_q 5 rfl (by kernel_rfl) (PQ.th PQ.body) hS9 rfl rfl (fun w_ hS => (rd_loadK 3 (by kernel_rfl) hS rfl rfl rfl)) ?_
      refine gd_keep [(0, Pp xb 0), (3, Pp b1 0), (4, Pp b3 0), (7, Pp b8 0), (83, .map (some mb)), (85, .int .i64 p.n)] (by kernel_rfl) ?_
      refine gd_pure 6 rfl (by kernel_rfl) (PQ.th PQ.body) hS9 rfl rfl (Pp b1 4) (by kernel_rfl) ?_
      refine gd_q 7 rfl (by kernel_rfl) (PQ.th PQ.body) hS9 rfl rfl (fun w_ hS => (rd_loadK 3 (by kernel_rfl) hS rfl rfl rfl)) ?_
      refine gd_st 8 (by kernel_rfl) (st_call rfl rfl rfl (by kernel_rfl) rfl (Clone_ct _ _ _ (hb.mono hH.zin) (by first | omega | (simp <;> omega))) ?_)
      rintro _ w20 ⟨v18, rfl, hF21⟩
      replace hH := hH.call hF21; clear hF21
      obtain ⟨A22, c23, rfl, hl24, hm25⟩ := hH.row_form 7 rfl
      replace hH : Hp w w20 _ _ [.kmap mb (intK .i64) (kv rs2), .blk xb 113 [Pp nb2 0, Ni p.many.toNat, .map (some mb)], .grp (ibxOwn 5 rs2), .grp (nbox b8 nb2 p), .blk b1 63 [.int .i64 p.idx, .int .i64 p.term, .int .i64 p.n, .int .i64 p.many, .slice Ab p.bytes.length cb], .blk b3 24 [.int .i64 0, .int .i64 0, .slice none 0 0, .slice none 0 0], .blk b8 116 [.int .i64 p.term, .int .i64 p.idx], .row (.slice A22 p.bytes.length c23) 5 1 p.bytes.length (bv p.bytes)] := hH
      replace hS9 := hH.sublist (.cons _ (.cons_cons _ (.cons_cons _ (.cons_cons _ (.cons_cons _ (.cons_cons _ (.cons_cons _ (List.nil_sublist _))))))))
      refine ⟨hS9, ?_⟩
      refine gd_keep [(0, Pp xb 0), (4, Pp b3 0), (7, Pp b8 0), (83, .map (some mb)), (85, .int .i64 p.n), (88, .slice A22 p.bytes.length c23)] (by kernel_rfl) ?_
      refine gd_st 9 (by kernel_rfl) (st_mapput (kt := 3) (e := 22) (v := .slice A22 p.bytes.length c23) 0 rfl rfl rfl (by kernel_rfl) (by kernel_rfl) (intK_key .i64) hH rfl rfl (p.n : Int) rfl rfl (kget_none (by rw [← kget_has]; exact hc4)) ?_)
      clear hH; intro w26 hH
      replace hH : Hp w w26 _ _ [.kmap mb (intK .i64) (kv rs2 ++ [((p.n : Int), Value.slice A22 p.bytes.length c23)]), .blk xb 113 [Pp nb2 0, Ni p.many.toNat, .map (some mb)], .grp (ibxOwn 5 rs2), .grp (nbox b8 nb2 p), .blk b1 63 [.int .i64 p.idx, .int .i64 p.term, .int .i64 p.n, .int .i64 p.many, .slice Ab p.bytes.length cb], .blk b3 24 [.int .i64 0, .int .i64 0, .slice none 0 0, .slice none 0 0], .blk b8 116 [.int .i64 p.term, .int .i64 p.idx], .row (.slice A22 p.bytes.length c23) 5 1 p.bytes.length (bv p.bytes)] := hH
      replace hS9 := hH.sublist (.cons _ (.cons_cons _ (.cons_cons _ (.cons_cons _ (.cons_cons _ (.cons_cons _ (.cons_cons _ (List.nil_sublist _))))))))
      refine ⟨hS9, ?_⟩
      refine gd_keep [(0, Pp xb 0), (4, Pp b3 0), (7, Pp b8 0)] (by kernel_rfl) ?_
      refine gd_done (by kernel_rfl) ?_
      refine at_sub [(0, Pp xb 0), (4, Pp b3 0), (7, Pp b8 0)] (Sub.of_eq (by kernel_rfl)) ?_
      refine cut_end ((Value.slice A22 p.bytes.length c23)) (Sub.of_eq (by kernel_rfl)) ?_
      have hw : withP rs2 p (Value.slice A22 p.bytes.length c23) = rs2 ++ [(p.n, (Value.slice A22 p.bytes.length c23), p.bytes)] := withP_new _ (by rw [← kget_has]; exact hc4)
      replace hH := hH.pick [2, 7, 0, 1, 3, 4, 5, 6] (by kernel_rfl) (os' := [.grp (ibxOwn 5 rs2), .row (.slice A22 p.bytes.length c23) 5 1 p.bytes.length (bv p.bytes), .kmap mb (intK .i64) (kv rs2 ++ [((p.n : Int), Value.slice A22 p.bytes.length c23)]), .blk xb 113 [Pp nb2 0, Ni p.many.toNat, .map (some mb)], .grp (nbox b8 nb2 p), .blk b1 63 [.int .i64 p.idx, .int .i64 p.term, .int .i64 p.n, .int .i64 p.many, .slice Ab p.bytes.length cb], .blk b3 24 [.int .i64 0, .int .i64 0, .slice none 0 0, .slice none 0 0], .blk b8 116 [.int .i64 p.term, .int .i64 p.idx]]) (by kernel_rfl)
      replace hH := hH.merge
      replace hH := hH.cast (os' := [.grp (ibxOwn 5 (rs2 ++ [(p.n, (Value.slice A22 p.bytes.length c23), p.bytes)])), .kmap mb (intK .i64) (kv rs2 ++ [((p.n : Int), Value.slice A22 p.bytes.length c23)]), .blk xb 113 [Pp nb2 0, Ni p.many.toNat, .map (some mb)], .grp (nbox b8 nb2 p), .blk b1 63 [.int .i64 p.idx, .int .i64 p.term, .int .i64 p.n, .int .i64 p.many, .slice Ab p.bytes.length cb], .blk b3 24 [.int .i64 0, .int .i64 0, .slice none 0 0, .slice none 0 0], .blk b8 116 [.int .i64 p.term, .int .i64 p.idx]]) (by rw [ibxOwn_snoc])
      replace hH := hH.cast (os' := [.grp (ibxOwn 5 (rs2 ++ [(p.n, (Value.slice A22 p.bytes.length c23), p.bytes)])), .kmap mb (intK .i64) (kv (rs2 ++ [(p.n, (Value.slice A22 p.bytes.length c23), p.bytes)])), .blk xb 113 [Pp nb2 0, Ni p.many.toNat, .map (some mb)], .grp (nbox b8 nb2 p), .blk b1 63 [.int .i64 p.idx, .int .i64 p.term, .int .i64 p.n, .int .i64 p.many, .slice Ab p.bytes.length cb], .blk b3 24 [.int .i64 0, .int .i64 0, .slice none 0 0, .slice none 0 0], .blk b8 116 [.int .i64 p.term, .int .i64 p.idx]]) (by rw [kv_snoc])
      replace hH := hH.pick [1, 2, 0, 3, 4, 5, 6] (by kernel_rfl) (os' := [.kmap mb (intK .i64) (kv (rs2 ++ [(p.n, (Value.slice A22 p.bytes.length c23), p.bytes)])), .blk xb 113 [Pp nb2 0, Ni p.many.toNat, .map (some mb)], .grp (ibxOwn 5 (rs2 ++ [(p.n, (Value.slice A22 p.bytes.length c23), p.bytes)])), .grp (nbox b8 nb2 p), .blk b1 63 [.int .i64 p.idx, .int .i64 p.term, .int .i64 p.n, .int .i64 p.many, .slice Ab p.bytes.length cb], .blk b3 24 [.int .i64 0, .int .i64 0, .slice none 0 0, .slice none 0 0], .blk b8 116 [.int .i64 p.term, .int .i64 p.idx]]) (by kernel_rfl)
      replace hH := (hH.sublist (.cons_cons _ (.cons_cons _ (.cons_cons _ (.cons_cons _ (.cons_cons _ (.cons_cons _ (.cons_cons _ (List.nil_sublist _)))))))))
      replace hH : Hp w w26 _ _ [.kmap mb (intK .i64) (kv (rs2 ++ [(p.n, (Value.slice A22 p.bytes.length c23), p.bytes)])), .blk xb 113 [Pp nb2 0, Ni p.many.toNat, .map (some mb)], .grp (ibxOwn 5 (rs2 ++ [(p.n, (Value.slice A22 p.bytes.length c23), p.bytes)])), .grp (nbox b8 nb2 p), .blk b1 63 [.int .i64 p.idx, .int .i64 p.term, .int .i64 p.n, .int .i64 p.many, .slice Ab p.bytes.length cb], .blk b3 24 [.int .i64 0, .int .i64 0, .slice none 0 0, .slice none 0 0], .blk b8 116 [.int .i64 p.term, .int .i64 p.idx]] := hH
      rw [hw]; exact hH
    refine sw_cv 79 (.bool false) (by rw [hc4]) rfl ?_
    try simp only [Bool.not_eq_false'] at hc4
    refine sw_skip ?_
    refine cut_end ((Value.slice none 0 0)) (Sub.of_eq (by kernel_rfl)) ?_
    have hw : withP rs2 p (Value.slice none 0 0) = rs2 := withP_old _ (by rw [← kget_has]; exact hc4)
    rw [hw]; exact hH
  clear hH
  rintro nv w27 hH
  have hsh3 := withP_short hsh2 q6 nv
  refine sw_keep [(0, Pp xb 0), (4, Pp b3 0), (7, Pp b8 0)] (by kernel_rfl) ?_
  refine sw_seq ?_
  refine sw_seq ?_
  refine sw_draw (by kernel_rfl) (fun w_ => Hp w w_ (off w (blksOf [.grp (ibxO xb nb mb ⟨none, 0, []⟩ l)])) (blksOf [.grp (ibxO xb nb mb ⟨none, 0, []⟩ l)]) [.kmap mb (intK .i64) (kv (withP rs2 p nv)), .blk xb 113 [Pp nb2 0, Ni p.many.toNat, .map (some mb)], .grp (ibxOwn 5 (withP rs2 p nv)), .grp (nbox b8 nb2 p), .blk b1 63 [.int .i64 p.idx, .int .i64 p.term, .int .i64 p.n, .int .i64 p.many, .slice Ab p.bytes.length cb], .blk b3 24 [.int .i64 0, .int .i64 0, .slice none 0 0, .slice none 0 0], .blk b8 116 [.int .i64 p.term, .int .i64 p.idx]]) ?_
  replace hH := hH.drew
  generalize { w27 with drawn := w27.drawn + 1 } = w28 at hH ⊢
  have hS9 := hH.sublist (.cons_cons _ (.cons_cons _ (.cons_cons _ (.cons_cons _ (.cons_cons _ (.cons_cons _ (.cons_cons _ (List.nil_sublist _))))))))
  refine gd_pure 0 rfl (by kernel_rfl) (PQ.th (PQ.th PQ.body)) hS9 rfl rfl (Pp xb 0) (by kernel_rfl) ?_
  refine gd_pure 1 rfl (by kernel_rfl) (PQ.th (PQ.th PQ.body)) hS9 rfl rfl (Pp xb 0) (by kernel_rfl) ?_
  refine gd_pure 2 rfl (by kernel_rfl) (PQ.th (PQ.th PQ.body)) hS9 rfl rfl (Pp xb 2) (by kernel_rfl) ?_
  refine gd_keep [(0, Pp xb 0), (4, Pp b3 0), (7, Pp b8 0), (91, Pp xb 2)] (by kernel_rfl) ?_
  refine gd_q 3 rfl (by kernel_rfl) (PQ.th (PQ.th PQ.body)) hS9 rfl rfl (fun w_ hS => (rd_loadK 1 (by kernel_rfl) hS rfl rfl rfl)) ?_
  refine gd_q 4 rfl (by kernel_rfl) (PQ.th (PQ.th PQ.body)) hS9 rfl rfl (fun w_ hS => (rd_maplen (kt := 3) (e := 22) 0 (by kernel_rfl) hS rfl rfl)) ?_
  refine gd_pure 5 rfl (by kernel_rfl) (PQ.th (PQ.th PQ.body)) hS9 rfl rfl (Pp xb 0) (by kernel_rfl) ?_
  refine gd_keep [(0, Pp xb 0), (4, Pp b3 0), (7, Pp b8 0), (93, Ni ((kv (withP rs2 p nv)).length)), (94, Pp xb 0)] (by kernel_rfl) ?_
  refine gd_pure 6 rfl (by kernel_rfl) (PQ.th (PQ.th PQ.body)) hS9 rfl rfl (Pp xb 0) (by kernel_rfl) ?_
  refine gd_pure 7 rfl (by kernel_rfl) (PQ.th (PQ.th PQ.body)) hS9 rfl rfl (Pp xb 1) (by kernel_rfl) ?_
  refine gd_q 8 rfl (by kernel_rfl) (PQ.th (PQ.th PQ.body)) hS9 rfl rfl (fun w_ hS => (rd_loadK 1 (by kernel_rfl) hS rfl rfl rfl)) ?_
  refine gd_keep [(0, Pp xb 0), (4, Pp b3 0), (7, Pp b8 0), (93, Ni ((kv (withP rs2 p nv)).length)), (97, Ni p.many.toNat)] (by kernel_rfl) ?_
  refine gd_pure 9 rfl (by kernel_rfl) (PQ.th (PQ.th PQ.body)) hS9 rfl rfl (.bool (decide ((((kv (withP rs2 p nv)).length : Nat) : Int) < ((p.many.toNat : Nat) : Int)))) (by kernel_rfl) ?_
  refine gd_done (by kernel_rfl) ?_
  refine at_sub [(0, Pp xb 0), (4, Pp b3 0), (7, Pp b8 0), (98, .bool (decide ((((kv (withP rs2 p nv)).length : Nat) : Int) < ((p.many.toNat : Nat) : Int))))] (Sub.of_eq (by kernel_rfl)) ?_
  refine sw_next ?_
  refine sw_cond rfl rfl (fun hc5 => ?_) (fun hc5 => ?_)
  ·
    refine sw_cv 98 (.bool true) (by rw [hc5]) rfl ?_
    try simp only [decide_eq_true_eq] at hc5
    rw [kv_length] at hc5
    refine sw_sr ?_
    refine gl_ops 1 [(4, Pp b3 0), (99, .agg #[.int .i64 0, .int .i64 0, .slice none 0 0, .slice none 0 0])] (by kernel_rfl) ?_
    refine gl_st (st_storeKA (vs := [.int .i64 0, .int .i64 0, .slice none 0 0, .slice none 0 0]) 5 rfl rfl rfl hH rfl rfl (by kernel_rfl) (by kernel_rfl) rfl (by simp) [.int .i64 0, .int .i64 0, .slice none 0 0, .slice none 0 0] rfl ?_)
    clear hH; intro w29 hH
    replace hH : Hp w w29 _ _ [.kmap mb (intK .i64) (kv (withP rs2 p nv)), .blk xb 113 [Pp nb2 0, Ni p.many.toNat, .map (some mb)], .grp (ibxOwn 5 (withP rs2 p nv)), .grp (nbox b8 nb2 p), .blk b1 63 [.int .i64 p.idx, .int .i64 p.term, .int .i64 p.n, .int .i64 p.many, .slice Ab p.bytes.length cb], .blk b3 24 [.int .i64 0, .int .i64 0, .slice none 0 0, .slice none 0 0], .blk b8 116 [.int .i64 p.term, .int .i64 p.idx]] := hH
    refine gl_ops 2 [(4, Pp b3 0), (5, .bool false), (6, .nilIface)] (by kernel_rfl) ?_
    refine gl_dn rfl ?_
    refine sw_ret ?_
    refine thR ?_
    refine retC3 rfl (RS.cellA hH 5 (by kernel_rfl) rfl rfl (by kernel_rfl) [.int .i64 0, .int .i64 0, .slice none 0 0, .slice none 0 0] rfl rfl) (RS.tmp rfl) (RS.tmp rfl) ?_
    replace hH := hH.pick [3, 6, 0, 1, 2, 4, 5] (by kernel_rfl) (os' := [.grp (nbox b8 nb2 p), .blk b8 116 [.int .i64 p.term, .int .i64 p.idx], .kmap mb (intK .i64) (kv (withP rs2 p nv)), .blk xb 113 [Pp nb2 0, Ni p.many.toNat, .map (some mb)], .grp (ibxOwn 5 (withP rs2 p nv)), .blk b1 63 [.int .i64 p.idx, .int .i64 p.term, .int .i64 p.n, .int .i64 p.many, .slice Ab p.bytes.length cb], .blk b3 24 [.int .i64 0, .int .i64 0, .slice none 0 0, .slice none 0 0]]) (by kernel_rfl)
    replace hH := nbox_own hH
    replace hH := hH.pick [1, 2, 3, 0, 4, 5] (by kernel_rfl) (os' := [.kmap mb (intK .i64) (kv (withP rs2 p nv)), .blk xb 113 [Pp nb2 0, Ni p.many.toNat, .map (some mb)], .grp (ibxOwn 5 (withP rs2 p nv)), .blk nb2 116 [.int .i64 p.term, .int .i64 p.idx], .blk b1 63 [.int .i64 p.idx, .int .i64 p.term, .int .i64 p.n, .int .i64 p.many, .slice Ab p.bytes.length cb], .blk b3 24 [.int .i64 0, .int .i64 0, .slice none 0 0, .slice none 0 0]]) (by kernel_rfl)
    replace hH := (hH.sublist (.cons_cons _ (.cons_cons _ (.cons_cons _ (.cons_cons _ (List.nil_sublist _))))))
    replace hH : Hp w w29 _ _ [.kmap mb (intK .i64) (kv (withP rs2 p nv)), .blk xb 113 [Pp nb2 0, Ni p.many.toNat, .map (some mb)], .grp (ibxOwn 5 (withP rs2 p nv)), .blk nb2 116 [.int .i64 p.term, .int .i64 p.idx]] := hH
    replace hH : Hp w w29 _ _ ([.kmap mb (intK .i64) (kv (withP rs2 p nv)), .blk xb 113 [Pp nb2 0, Ni p.many.toNat, .map (some mb)], .grp (ibxOwn 5 (withP rs2 p nv)), .blk nb2 116 [.int .i64 p.term, .int .i64 p.idx]] ++ []) := hH
    have hr := putI_few (S := ⟨none, 0, []⟩) nv hc1 hbase (by omega)
    refine ⟨nv, nb2, kv (withP rs2 p nv), .slice none 0 0, .slice none 0 0, ?_⟩
    rw [hr]
    exact ⟨rfl, fun _ => rfl, (((hH.close).nilRow 5 1).nilRow 5 1).turned⟩
  refine sw_cv 98 (.bool false) (by rw [hc5]) rfl ?_
  try simp only [decide_eq_false_iff_not, Int.not_lt, Int.not_le] at hc5
  rw [kv_length] at hc5
  refine sw_skip ?_
  refine sw_next ?_
  refine sw_sr ?_
  refine gl_ops 1 [(0, Pp xb 0), (4, Pp b3 0), (7, Pp b8 0), (10, .slice none 0 0)] (by kernel_rfl) ?_
  replace hH := hH.nilRow 5 1
  refine gl_dn rfl ?_
  refine sw_seq ?_
  refine sw_sr ?_
  refine gl_ops 3 [(0, Pp xb 0), (4, Pp b3 0), (7, Pp b8 0), (10, .slice none 0 0), (102, Pp xb 1)] (by kernel_rfl) ?_
  refine gl_q rfl rfl rfl (rd_loadK 1 (by kernel_rfl) hH rfl rfl rfl) ?_
  refine gl_ops 1 [(0, Pp xb 0), (4, Pp b3 0), (7, Pp b8 0), (10, .slice none 0 0), (103, Ni p.many.toNat), (104, .int .i64 0)] (by kernel_rfl) ?_
  refine gl_dn rfl ?_
  refine sw_block ?_
  refine sw_loop (γ := Nat × Option Addr × Nat) (fun (i, A, c) => [(0, Pp xb 0), (4, Pp b3 0), (7, Pp b8 0), (10, .slice A ((joinI (withP rs2 p nv) i).length) c), (103, Ni p.many.toNat), (104, Ni i)]) (fun (i, A, c) w_ => (i ≤ p.many.toNat) ∧ Hp w w_ (off w (blksOf [.grp (ibxO xb nb mb ⟨none, 0, []⟩ l)])) (blksOf [.grp (ibxO xb nb mb ⟨none, 0, []⟩ l)]) [.kmap mb (intK .i64) (delN (kv (withP rs2 p nv)) i), .blk xb 113 [Pp nb2 0, Ni p.many.toNat, .map (some mb)], .grp (ibxOwn 5 (withP rs2 p nv)), .grp (nbox b8 nb2 p), .blk b1 63 [.int .i64 p.idx, .int .i64 p.term, .int .i64 p.n, .int .i64 p.many, .slice Ab p.bytes.length cb], .blk b3 24 [.int .i64 0, .int .i64 0, .slice none 0 0, .slice none 0 0], .blk b8 116 [.int .i64 p.term, .int .i64 p.idx], .row (.slice A (joinI (withP rs2 p nv) i).length c) 5 1 ((joinI (withP rs2 p nv) i).length) (bv (joinI (withP rs2 p nv) i))]) (fun (i, A, c) => p.many.toNat - i) (0, none, 0) (Sub.of_eq (by kernel_rfl)) ?_ ?_
  · exact ⟨by omega, hH⟩
  clear hH
  rintro ⟨i, A, c⟩ w30 ⟨hi, hH⟩
  have hj := joinI_le hsh3 i
  have hro := rowOf_le hsh3 ((i : Nat) : Int)
  refine sw_keep [(0, Pp xb 0), (4, Pp b3 0), (7, Pp b8 0), (10, .slice A ((joinI (withP rs2 p nv) i).length) c), (103, Ni p.many.toNat), (104, Ni i)] (by kernel_rfl) ?_
  refine sw_sr ?_
  refine gl_ops 1 [(0, Pp xb 0), (4, Pp b3 0), (7, Pp b8 0), (10, .slice A ((joinI (withP rs2 p nv) i).length) c), (103, Ni p.many.toNat), (104, Ni i), (105, .bool (decide (((i : Nat) : Int) < ((p.many.toNat : Nat) : Int))))] (by kernel_rfl) ?_
  refine gl_dn rfl ?_
  refine sw_seq ?_
  refine sw_cond rfl rfl (fun hc6 => ?_) (fun hc6 => ?_)
  ·
    refine sw_cv 105 (.bool true) (by rw [hc6]) rfl ?_
    try simp only [decide_eq_true_eq] at hc6
    refine sw_skip ?_
    refine sw_next ?_
    refine sw_seq ?_
    refine sw_block ?_
    refine sw_sr ?_
    refine gl_ops 2 [(0, Pp xb 0), (4, Pp b3 0), (7, Pp b8 0), (10, .slice A ((joinI (withP rs2 p nv) i).length) c), (11, Ni i), (103, Ni p.many.toNat), (104, Ni i)] (by kernel_rfl) ?_
    refine gl_dn rfl ?_
    refine sw_sr ?_
    refine gl_ops 4 [(0, Pp xb 0), (4, Pp b3 0), (7, Pp b8 0), (11, Ni i), (103, Ni p.many.toNat), (104, Ni i), (107, .slice A ((joinI (withP rs2 p nv) i).length) c), (110, Pp xb 2)] (by kernel_rfl) ?_
    refine gl_q rfl rfl rfl (rd_loadK 1 (by kernel_rfl) hH rfl rfl rfl) ?_
    refine gl_ops 1 [(0, Pp xb 0), (4, Pp b3 0), (7, Pp b8 0), (11, Ni i), (103, Ni p.many.toNat), (104, Ni i), (107, .slice A ((joinI (withP rs2 p nv) i).length) c), (111, .map (some mb)), (112, Ni i)] (by kernel_rfl) ?_
    have hq34 := rows_rb hH 2 rfl ((i : Nat) : Int)
    obtain ⟨A31, c32, hv33, -, -⟩ := hq34.row.form
    rw [hv33] at hq34
    refine gl_q rfl rfl rfl (rd_mapget (kt := 3) (e := 22) (zv := .slice none 0 0) 0 (by kernel_rfl) (by kernel_rfl) (intK_key .i64) (by kernel_rfl) hH rfl rfl (((i : Nat) : Int) : Int) rfl) ?_
    refine gl_cv 113 (.slice A31 ((rowOf (withP rs2 p nv) ((i : Nat) : Int)).length) c32) (by rw [kget_delN _ _ _ (Nat.le_refl _)]; exact hv33) rfl ?_
    refine gl_st (st_appH (e := 5) (zv := .int .u8 0) (m := 1) (bytes := 1) 7 rfl rfl rfl (by kernel_rfl) (by kernel_rfl) rfl (by decide) hH rfl rfl rfl hq34.row (bv_one _) (by unfold maxLen; omega) (by omega) ?_)
    clear hH; intro v35 w36 hH
    replace hH := hH.row_eq 7 (l' := ((joinI (withP rs2 p nv) i) ++ (rowOf (withP rs2 p nv) ((i : Nat) : Int))).length) (xs' := bv ((joinI (withP rs2 p nv) i) ++ (rowOf (withP rs2 p nv) ((i : Nat) : Int)))) rfl (by simp only [List.length_append, List.length_cons, List.length_nil] <;> omega) ((bv_append _ _).symm)
    replace hH := hH.row_eq 7 (l' := (joinI (withP rs2 p nv) (i + 1)).length) (xs' := bv (joinI (withP rs2 p nv) (i + 1))) rfl (by rw [joinI_snoc]) (by rw [joinI_snoc])
    obtain ⟨A37, c38, rfl, hl39, hm40⟩ := hH.row_form 7 rfl
    replace hH : Hp w w36 _ _ [.kmap mb (intK .i64) (delN (kv (withP rs2 p nv)) i), .blk xb 113 [Pp nb2 0, Ni p.many.toNat, .map (some mb)], .grp (ibxOwn 5 (withP rs2 p nv)), .grp (nbox b8 nb2 p), .blk b1 63 [.int .i64 p.idx, .int .i64 p.term, .int .i64 p.n, .int .i64 p.many, .slice Ab p.bytes.length cb], .blk b3 24 [.int .i64 0, .int .i64 0, .slice none 0 0, .slice none 0 0], .blk b8 116 [.int .i64 p.term, .int .i64 p.idx], .row (.slice A37 ((joinI (withP rs2 p nv) (i + 1)).length) c38) 5 1 ((joinI (withP rs2 p nv) (i + 1)).length) (bv (joinI (withP rs2 p nv) (i + 1)))] := hH
    refine gl_ops 1 [(0, Pp xb 0), (4, Pp b3 0), (7, Pp b8 0), (10, .slice A37 ((joinI (withP rs2 p nv) (i + 1)).length) c38), (11, Ni i), (103, Ni p.many.toNat), (104, Ni i)] (by kernel_rfl) ?_
    refine gl_dn rfl ?_
    refine sw_region ?_
    refine gl_ops 3 [(0, Pp xb 0), (4, Pp b3 0), (7, Pp b8 0), (10, .slice A37 ((joinI (withP rs2 p nv) (i + 1)).length) c38), (11, Ni i), (103, Ni p.many.toNat), (104, Ni i), (117, Pp xb 2)] (by kernel_rfl) ?_
    refine gl_q rfl rfl rfl (rd_loadK 1 (by kernel_rfl) hH rfl rfl rfl) ?_
    refine gl_ops 1 [(0, Pp xb 0), (4, Pp b3 0), (7, Pp b8 0), (10, .slice A37 ((joinI (withP rs2 p nv) (i + 1)).length) c38), (103, Ni p.many.toNat), (104, Ni i), (118, .map (some mb)), (119, Ni i)] (by kernel_rfl) ?_
    refine gl_st (st_mapdel (kt := 3) (e := 22) 0 rfl rfl rfl (by kernel_rfl) (by kernel_rfl) (intK_key .i64) hH rfl rfl (((i : Nat) : Int) : Int) rfl ?_)
    clear hH; intro w41 hH
    replace hH : Hp w w41 _ _ [.kmap mb (intK .i64) (kdel (delN (kv (withP rs2 p nv)) i) (((i : Nat) : Int) : Int)), .blk xb 113 [Pp nb2 0, Ni p.many.toNat, .map (some mb)], .grp (ibxOwn 5 (withP rs2 p nv)), .grp (nbox b8 nb2 p), .blk b1 63 [.int .i64 p.idx, .int .i64 p.term, .int .i64 p.n, .int .i64 p.many, .slice Ab p.bytes.length cb], .blk b3 24 [.int .i64 0, .int .i64 0, .slice none 0 0, .slice none 0 0], .blk b8 116 [.int .i64 p.term, .int .i64 p.idx], .row (.slice A37 ((joinI (withP rs2 p nv) (i + 1)).length) c38) 5 1 ((joinI (withP rs2 p nv) (i + 1)).length) (bv (joinI (withP rs2 p nv) (i + 1)))] := hH
    refine gl_done rfl ?_
    refine bkN ?_
    refine sw_next ?_
    refine sw_region ?_
    refine gl_ops 1 [(0, Pp xb 0), (4, Pp b3 0), (7, Pp b8 0), (10, .slice A37 ((joinI (withP rs2 p nv) (i + 1)).length) c38), (103, Ni p.many.toNat), (120, .int .i64 (IntKind.i64.wrap (((i : Nat) : Int) + 1)))] (by kernel_rfl) ?_
    refine gl_cv 120 (Ni (i + 1)) (cv_i64 (by omega)) rfl ?_
    refine gl_ops 1 [(0, Pp xb 0), (4, Pp b3 0), (7, Pp b8 0), (10, .slice A37 ((joinI (withP rs2 p nv) (i + 1)).length) c38), (103, Ni p.many.toNat), (104, Ni (i + 1))] (by kernel_rfl) ?_
    refine gl_done rfl ?_
    refine rnd_end (g := (i, A, c)) (i + 1, A37, c38) (by kernel_rfl) ?_ ?_
    · exact ⟨by omega, hH⟩
    · show p.many.toNat - (i + 1) < p.many.toNat - i; omega
  refine sw_cv 105 (.bool false) (by rw [hc6]) rfl ?_
  try simp only [decide_eq_false_iff_not, Int.not_lt, Int.not_le] at hc6
  refine sw_exit ?_
  refine thX ?_
  refine thX ?_
  refine bkH ?_
  refine sw_next ?_
  have hj := joinI_le hsh3 i
  have hie : i = p.many.toNat := by omega
  refine sw_sr ?_
  refine gl_ops 3 [(4, Pp b3 0), (7, Pp b8 0), (10, .slice A ((joinI (withP rs2 p nv) i).length) c), (123, Pp xb 1)] (by kernel_rfl) ?_
  refine gl_st (st_storeK (v := .int .i64 0) 1 rfl rfl rfl hH rfl rfl rfl (by kernel_rfl) rfl (by simp) ?_)
  clear hH; intro w42 hH
  replace hH : Hp w w42 _ _ [.kmap mb (intK .i64) (delN (kv (withP rs2 p nv)) i), .blk xb 113 [Pp nb2 0, .int .i64 0, .map (some mb)], .grp (ibxOwn 5 (withP rs2 p nv)), .grp (nbox b8 nb2 p), .blk b1 63 [.int .i64 p.idx, .int .i64 p.term, .int .i64 p.n, .int .i64 p.many, .slice Ab p.bytes.length cb], .blk b3 24 [.int .i64 0, .int .i64 0, .slice none 0 0, .slice none 0 0], .blk b8 116 [.int .i64 p.term, .int .i64 p.idx], .row (.slice A (joinI (withP rs2 p nv) i).length c) 5 1 ((joinI (withP rs2 p nv) i).length) (bv (joinI (withP rs2 p nv) i))] := hH
  refine gl_dn rfl ?_
  refine sw_sr ?_
  refine gl_ops 1 [(4, Pp b3 0), (7, Pp b8 0), (125, .slice A ((joinI (withP rs2 p nv) i).length) c)] (by kernel_rfl) ?_
  refine gl_st (st_call rfl rfl rfl (by kernel_rfl) rfl (Read_ct _ (joinI (withP rs2 p nv) i) _ (rb_own hH 7 rfl) (by first | omega | (simp <;> omega))) ?_)
  rintro _ w47 ⟨v43, v44, rfl, hF48⟩
  replace hH := hH.call hF48; clear hF48
  obtain ⟨A49, c50, rfl, hl51, hm52⟩ := hH.row_form 8 rfl
  obtain ⟨A53, c54, rfl, hl55, hm56⟩ := hH.row_form 9 rfl
  replace hH : Hp w w47 _ _ [.kmap mb (intK .i64) (delN (kv (withP rs2 p nv)) i), .blk xb 113 [Pp nb2 0, .int .i64 0, .map (some mb)], .grp (ibxOwn 5 (withP rs2 p nv)), .grp (nbox b8 nb2 p), .blk b1 63 [.int .i64 p.idx, .int .i64 p.term, .int .i64 p.n, .int .i64 p.many, .slice Ab p.bytes.length cb], .blk b3 24 [.int .i64 0, .int .i64 0, .slice none 0 0, .slice none 0 0], .blk b8 116 [.int .i64 p.term, .int .i64 p.idx], .row (.slice A (joinI (withP rs2 p nv) i).length c) 5 1 ((joinI (withP rs2 p nv) i).length) (bv (joinI (withP rs2 p nv) i)), .row (.slice A49 (((readV (joinI (withP rs2 p nv) i)).1.conf).length) c50) 5 1 (((readV (joinI (withP rs2 p nv) i)).1.conf).length) (bv ((readV (joinI (withP rs2 p nv) i)).1.conf)), .row (.slice A53 (((readV (joinI (withP rs2 p nv) i)).1.data).length) c54) 5 1 (((readV (joinI (withP rs2 p nv) i)).1.data).length) (bv ((readV (joinI (withP rs2 p nv) i)).1.data))] := hH
  refine gl_ops 3 [(4, Pp b3 0), (7, Pp b8 0), (127, .agg #[.int .i64 ((readV (joinI (withP rs2 p nv) i)).1.idx), .int .i64 ((readV (joinI (withP rs2 p nv) i)).1.term), .slice A49 (((readV (joinI (withP rs2 p nv) i)).1.conf).length) c50, .slice A53 (((readV (joinI (withP rs2 p nv) i)).1.data).length) c54]), (128, errV ((readV (joinI (withP rs2 p nv) i)).2))] (by kernel_rfl) ?_
  refine gl_st (st_allocH rfl rfl rfl (cs := [.int .i64 0, .int .i64 0, .slice none 0 0, .slice none 0 0]) (by kernel_rfl) hH ?_)
  clear hH; intro b57 w58 hH
  replace hH : Hp w w58 _ _ [.kmap mb (intK .i64) (delN (kv (withP rs2 p nv)) i), .blk xb 113 [Pp nb2 0, .int .i64 0, .map (some mb)], .grp (ibxOwn 5 (withP rs2 p nv)), .grp (nbox b8 nb2 p), .blk b1 63 [.int .i64 p.idx, .int .i64 p.term, .int .i64 p.n, .int .i64 p.many, .slice Ab p.bytes.length cb], .blk b3 24 [.int .i64 0, .int .i64 0, .slice none 0 0, .slice none 0 0], .blk b8 116 [.int .i64 p.term, .int .i64 p.idx], .row (.slice A (joinI (withP rs2 p nv) i).length c) 5 1 ((joinI (withP rs2 p nv) i).length) (bv (joinI (withP rs2 p nv) i)), .row (.slice A49 (((readV (joinI (withP rs2 p nv) i)).1.conf).length) c50) 5 1 (((readV (joinI (withP rs2 p nv) i)).1.conf).length) (bv ((readV (joinI (withP rs2 p nv) i)).1.conf)), .row (.slice A53 (((readV (joinI (withP rs2 p nv) i)).1.data).length) c54) 5 1 (((readV (joinI (withP rs2 p nv) i)).1.data).length) (bv ((readV (joinI (withP rs2 p nv) i)).1.data)), .blk b57 24 [.int .i64 0, .int .i64 0, .slice none 0 0, .slice none 0 0]] := hH
  refine gl_st (st_storeKA (vs := [.int .i64 ((readV (joinI (withP rs2 p nv) i)).1.idx), .int .i64 ((readV (joinI (withP rs2 p nv) i)).1.term), .slice A49 (((readV (joinI (withP rs2 p nv) i)).1.conf).length) c50, .slice A53 (((readV (joinI (withP rs2 p nv) i)).1.data).length) c54]) 10 rfl rfl rfl hH rfl rfl (by kernel_rfl) (by kernel_rfl) rfl (by simp) [.int .i64 ((readV (joinI (withP rs2 p nv) i)).1.idx), .int .i64 ((readV (joinI (withP rs2 p nv) i)).1.term), .slice A49 (((readV (joinI (withP rs2 p nv) i)).1.conf).length) c50, .slice A53 (((readV (joinI (withP rs2 p nv) i)).1.data).length) c54] rfl ?_)
  clear hH; intro w59 hH
  replace hH : Hp w w59 _ _ [.kmap mb (intK .i64) (delN (kv (withP rs2 p nv)) i), .blk xb 113 [Pp nb2 0, .int .i64 0, .map (some mb)], .grp (ibxOwn 5 (withP rs2 p nv)), .grp (nbox b8 nb2 p), .blk b1 63 [.int .i64 p.idx, .int .i64 p.term, .int .i64 p.n, .int .i64 p.many, .slice Ab p.bytes.length cb], .blk b3 24 [.int .i64 0, .int .i64 0, .slice none 0 0, .slice none 0 0], .blk b8 116 [.int .i64 p.term, .int .i64 p.idx], .row (.slice A (joinI (withP rs2 p nv) i).length c) 5 1 ((joinI (withP rs2 p nv) i).length) (bv (joinI (withP rs2 p nv) i)), .row (.slice A49 (((readV (joinI (withP rs2 p nv) i)).1.conf).length) c50) 5 1 (((readV (joinI (withP rs2 p nv) i)).1.conf).length) (bv ((readV (joinI (withP rs2 p nv) i)).1.conf)), .row (.slice A53 (((readV (joinI (withP rs2 p nv) i)).1.data).length) c54) 5 1 (((readV (joinI (withP rs2 p nv) i)).1.data).length) (bv ((readV (joinI (withP rs2 p nv) i)).1.data)), .blk b57 24 [.int .i64 ((readV (joinI (withP rs2 p nv) i)).1.idx), .int .i64 ((readV (joinI (withP rs2 p nv) i)).1.term), .slice A49 (((readV (joinI (withP rs2 p nv) i)).1.conf).length) c50, .slice A53 (((readV (joinI (withP rs2 p nv) i)).1.data).length) c54]] := hH
  refine gl_ops 1 [(4, Pp b3 0), (7, Pp b8 0), (12, Pp b57 0), (13, errV ((readV (joinI (withP rs2 p nv) i)).2))] (by kernel_rfl) ?_
  refine gl_dn rfl ?_
  refine sw_seq ?_
  refine sw_sr ?_
  refine gl_ops 1 [(4, Pp b3 0), (7, Pp b8 0), (12, Pp b57 0), (129, errV ((readV (joinI (withP rs2 p nv) i)).2))] (by kernel_rfl) ?_
  refine gl_q rfl rfl rfl (rd_err_ne (by kernel_rfl) rfl) ?_
  refine gl_ops 1 [(4, Pp b3 0), (7, Pp b8 0), (12, Pp b57 0), (131, .bool (((readV (joinI (withP rs2 p nv) i)).2) != 0))] (by kernel_rfl) ?_
  refine gl_split 131 (b := ((readV (joinI (withP rs2 p nv) i)).2) != 0) rfl (fun hg7 => ?_) (fun hg7 => ?_)
  ·
    try simp only [bne_iff_ne, ne_eq] at hg7
    have hrd : (readV (joinI (withP rs2 p nv) i)).2 ≠ 0 := by simpa using hg7
    refine gl_ops 8 [(4, Pp b3 0), (12, Pp b57 0), (139, .bool true)] (by kernel_rfl) ?_
    refine gl_dn rfl ?_
    refine sw_true rfl rfl ?_
    refine sw_sr ?_
    refine gl_ops 2 [(4, Pp b3 0), (140, .agg #[.int .i64 0, .int .i64 0, .slice none 0 0, .slice none 0 0]), (141, .iface 37 (.int .i64 91))] (by kernel_rfl) ?_
    refine gl_st (st_storeKA (vs := [.int .i64 0, .int .i64 0, .slice none 0 0, .slice none 0 0]) 5 rfl rfl rfl hH rfl rfl (by kernel_rfl) (by kernel_rfl) rfl (by simp) [.int .i64 0, .int .i64 0, .slice none 0 0, .slice none 0 0] rfl ?_)
    clear hH; intro w60 hH
    replace hH : Hp w w60 _ _ [.kmap mb (intK .i64) (delN (kv (withP rs2 p nv)) i), .blk xb 113 [Pp nb2 0, .int .i64 0, .map (some mb)], .grp (ibxOwn 5 (withP rs2 p nv)), .grp (nbox b8 nb2 p), .blk b1 63 [.int .i64 p.idx, .int .i64 p.term, .int .i64 p.n, .int .i64 p.many, .slice Ab p.bytes.length cb], .blk b3 24 [.int .i64 0, .int .i64 0, .slice none 0 0, .slice none 0 0], .blk b8 116 [.int .i64 p.term, .int .i64 p.idx], .row (.slice A (joinI (withP rs2 p nv) i).length c) 5 1 ((joinI (withP rs2 p nv) i).length) (bv (joinI (withP rs2 p nv) i)), .row (.slice A49 (((readV (joinI (withP rs2 p nv) i)).1.conf).length) c50) 5 1 (((readV (joinI (withP rs2 p nv) i)).1.conf).length) (bv ((readV (joinI (withP rs2 p nv) i)).1.conf)), .row (.slice A53 (((readV (joinI (withP rs2 p nv) i)).1.data).length) c54) 5 1 (((readV (joinI (withP rs2 p nv) i)).1.data).length) (bv ((readV (joinI (withP rs2 p nv) i)).1.data)), .blk b57 24 [.int .i64 ((readV (joinI (withP rs2 p nv) i)).1.idx), .int .i64 ((readV (joinI (withP rs2 p nv) i)).1.term), .slice A49 (((readV (joinI (withP rs2 p nv) i)).1.conf).length) c50, .slice A53 (((readV (joinI (withP rs2 p nv) i)).1.data).length) c54]] := hH
    refine gl_ops 2 [(4, Pp b3 0), (5, .bool false), (6, .iface 37 (.int .i64 91))] (by kernel_rfl) ?_
    refine gl_dn rfl ?_
    refine sw_ret ?_
    refine thR ?_
    refine retC3 rfl (RS.cellA hH 5 (by kernel_rfl) rfl rfl (by kernel_rfl) [.int .i64 0, .int .i64 0, .slice none 0 0, .slice none 0 0] rfl rfl) (RS.tmp rfl) (RS.tmp rfl) ?_
    replace hH := hH.pick [3, 6, 0, 1, 2, 4, 5, 7, 8, 9, 10] (by kernel_rfl) (os' := [.grp (nbox b8 nb2 p), .blk b8 116 [.int .i64 p.term, .int .i64 p.idx], .kmap mb (intK .i64) (delN (kv (withP rs2 p nv)) i), .blk xb 113 [Pp nb2 0, .int .i64 0, .map (some mb)], .grp (ibxOwn 5 (withP rs2 p nv)), .blk b1 63 [.int .i64 p.idx, .int .i64 p.term, .int .i64 p.n, .int .i64 p.many, .slice Ab p.bytes.length cb], .blk b3 24 [.int .i64 0, .int .i64 0, .slice none 0 0, .slice none 0 0], .row (.slice A (joinI (withP rs2 p nv) i).length c) 5 1 ((joinI (withP rs2 p nv) i).length) (bv (joinI (withP rs2 p nv) i)), .row (.slice A49 (((readV (joinI (withP rs2 p nv) i)).1.conf).length) c50) 5 1 (((readV (joinI (withP rs2 p nv) i)).1.conf).length) (bv ((readV (joinI (withP rs2 p nv) i)).1.conf)), .row (.slice A53 (((readV (joinI (withP rs2 p nv) i)).1.data).length) c54) 5 1 (((readV (joinI (withP rs2 p nv) i)).1.data).length) (bv ((readV (joinI (withP rs2 p nv) i)).1.data)), .blk b57 24 [.int .i64 ((readV (joinI (withP rs2 p nv) i)).1.idx), .int .i64 ((readV (joinI (withP rs2 p nv) i)).1.term), .slice A49 (((readV (joinI (withP rs2 p nv) i)).1.conf).length) c50, .slice A53 (((readV (joinI (withP rs2 p nv) i)).1.data).length) c54]]) (by kernel_rfl)
    replace hH := nbox_own hH
    replace hH := (hH.sublist (.cons_cons _ (.cons_cons _ (.cons_cons _ (List.nil_sublist _)))))
    replace hH : Hp w w60 _ _ [.blk nb2 116 [.int .i64 p.term, .int .i64 p.idx], .kmap mb (intK .i64) (delN (kv (withP rs2 p nv)) i), .blk xb 113 [Pp nb2 0, .int .i64 0, .map (some mb)]] := hH
    replace hH := hH.nogrp
    replace hH := hH.pick [1, 2, 3, 0] (by kernel_rfl) (os' := [.kmap mb (intK .i64) (delN (kv (withP rs2 p nv)) i), .blk xb 113 [Pp nb2 0, .int .i64 0, .map (some mb)], .grp (ibxOwn 5 []), .blk nb2 116 [.int .i64 p.term, .int .i64 p.idx]]) (by kernel_rfl)
    replace hH := (hH.sublist (.cons_cons _ (.cons_cons _ (.cons_cons _ (.cons_cons _ (List.nil_sublist _))))))
    replace hH : Hp w w60 _ _ [.kmap mb (intK .i64) (delN (kv (withP rs2 p nv)) i), .blk xb 113 [Pp nb2 0, .int .i64 0, .map (some mb)], .grp (ibxOwn 5 []), .blk nb2 116 [.int .i64 p.term, .int .i64 p.idx]] := hH
    replace hH : Hp w w60 _ _ ([.kmap mb (intK .i64) (delN (kv (withP rs2 p nv)) i), .blk xb 113 [Pp nb2 0, .int .i64 0, .map (some mb)], .grp (ibxOwn 5 []), .blk nb2 116 [.int .i64 p.term, .int .i64 p.idx]] ++ []) := hH
    have hr := (show putI ⟨none, 0, []⟩ p nv = (⟨some (p.term, p.idx), 0, []⟩, Snp.none, false, 91) from by rw [putI_end nv hc1 hbase (by omega), ← hie]; rw [endI_bad1 hrd])
    refine ⟨nv, nb2, delN (kv (withP rs2 p nv)) i, .slice none 0 0, .slice none 0 0, ?_⟩
    rw [hr]
    exact ⟨rfl, fun h => absurd rfl h, (((hH.close).nilRow 5 1).nilRow 5 1).turned⟩
  try simp only [bne_eq_false_iff_eq] at hg7
  have hrd : (readV (joinI (withP rs2 p nv) i)).2 = 0 := by simpa using hg7
  refine gl_q rfl rfl rfl (rd_loadKA (m := 2) 6 (by kernel_rfl) hH rfl rfl (by kernel_rfl) [.int .i64 p.term, .int .i64 p.idx] rfl rfl) ?_
  refine gl_ops 1 [(4, Pp b3 0), (12, Pp b57 0), (131, .bool false), (132, .agg #[.int .i64 p.term, .int .i64 p.idx]), (133, Pp b57 1)] (by kernel_rfl) ?_
  refine gl_q rfl rfl rfl (rd_loadK 10 (by kernel_rfl) hH rfl rfl rfl) ?_
  refine gl_ops 1 [(4, Pp b3 0), (12, Pp b57 0), (131, .bool false), (132, .agg #[.int .i64 p.term, .int .i64 p.idx]), (134, .int .i64 ((readV (joinI (withP rs2 p nv) i)).1.term)), (135, Pp b57 0)] (by kernel_rfl) ?_
  refine gl_q rfl rfl rfl (rd_loadK 10 (by kernel_rfl) hH rfl rfl rfl) ?_
  refine gl_ops 1 [(4, Pp b3 0), (12, Pp b57 0), (131, .bool false), (132, .agg #[.int .i64 p.term, .int .i64 p.idx]), (137, .agg #[.int .i64 ((readV (joinI (withP rs2 p nv) i)).1.term), .int .i64 ((readV (joinI (withP rs2 p nv) i)).1.idx)])] (by kernel_rfl) ?_
  refine gl_q rfl rfl rfl (rd_pair_neq (k0 := .i64) (k1 := .i64) 3 3 (by kernel_rfl) (by kernel_rfl) (by kernel_rfl) (by kernel_rfl) (by kernel_rfl) (by kernel_rfl) (by kernel_rfl) (by kernel_rfl) rfl rfl) ?_
  refine gl_ops 1 [(4, Pp b3 0), (12, Pp b57 0), (139, .bool (!((p.term : Int) == ((readV (joinI (withP rs2 p nv) i)).1.term) && (p.idx : Int) == ((readV (joinI (withP rs2 p nv) i)).1.idx))))] (by kernel_rfl) ?_
  refine gl_dn rfl ?_
  refine sw_cond rfl rfl (fun hc9 => ?_) (fun hc9 => ?_)
  ·
    refine sw_cv 139 (.bool true) (by rw [hc9]) rfl ?_
    try simp only [Bool.not_eq_true', beq_eq_false_iff_ne, ne_eq] at hc9
    have hnw : ¬ ((readV (joinI (withP rs2 p nv) i)).1.term = p.term ∧ (readV (joinI (withP rs2 p nv) i)).1.idx = p.idx) := by intro hh; rw [hh.1, hh.2] at hc9; simp at hc9
    refine sw_sr ?_
    refine gl_ops 2 [(4, Pp b3 0), (140, .agg #[.int .i64 0, .int .i64 0, .slice none 0 0, .slice none 0 0]), (141, .iface 37 (.int .i64 91))] (by kernel_rfl) ?_
    refine gl_st (st_storeKA (vs := [.int .i64 0, .int .i64 0, .slice none 0 0, .slice none 0 0]) 5 rfl rfl rfl hH rfl rfl (by kernel_rfl) (by kernel_rfl) rfl (by simp) [.int .i64 0, .int .i64 0, .slice none 0 0, .slice none 0 0] rfl ?_)
    clear hH; intro w61 hH
    replace hH : Hp w w61 _ _ [.kmap mb (intK .i64) (delN (kv (withP rs2 p nv)) i), .blk xb 113 [Pp nb2 0, .int .i64 0, .map (some mb)], .grp (ibxOwn 5 (withP rs2 p nv)), .grp (nbox b8 nb2 p), .blk b1 63 [.int .i64 p.idx, .int .i64 p.term, .int .i64 p.n, .int .i64 p.many, .slice Ab p.bytes.length cb], .blk b3 24 [.int .i64 0, .int .i64 0, .slice none 0 0, .slice none 0 0], .blk b8 116 [.int .i64 p.term, .int .i64 p.idx], .row (.slice A (joinI (withP rs2 p nv) i).length c) 5 1 ((joinI (withP rs2 p nv) i).length) (bv (joinI (withP rs2 p nv) i)), .row (.slice A49 (((readV (joinI (withP rs2 p nv) i)).1.conf).length) c50) 5 1 (((readV (joinI (withP rs2 p nv) i)).1.conf).length) (bv ((readV (joinI (withP rs2 p nv) i)).1.conf)), .row (.slice A53 (((readV (joinI (withP rs2 p nv) i)).1.data).length) c54) 5 1 (((readV (joinI (withP rs2 p nv) i)).1.data).length) (bv ((readV (joinI (withP rs2 p nv) i)).1.data)), .blk b57 24 [.int .i64 ((readV (joinI (withP rs2 p nv) i)).1.idx), .int .i64 ((readV (joinI (withP rs2 p nv) i)).1.term), .slice A49 (((readV (joinI (withP rs2 p nv) i)).1.conf).length) c50, .slice A53 (((readV (joinI (withP rs2 p nv) i)).1.data).length) c54]] := hH
    refine gl_ops 2 [(4, Pp b3 0), (5, .bool false), (6, .iface 37 (.int .i64 91))] (by kernel_rfl) ?_
    refine gl_dn rfl ?_
    refine sw_ret ?_
    refine thR ?_
    refine retC3 rfl (RS.cellA hH 5 (by kernel_rfl) rfl rfl (by kernel_rfl) [.int .i64 0, .int .i64 0, .slice none 0 0, .slice none 0 0] rfl rfl) (RS.tmp rfl) (RS.tmp rfl) ?_
    replace hH := hH.pick [3, 6, 0, 1, 2, 4, 5, 7, 8, 9, 10] (by kernel_rfl) (os' := [.grp (nbox b8 nb2 p), .blk b8 116 [.int .i64 p.term, .int .i64 p.idx], .kmap mb (intK .i64) (delN (kv (withP rs2 p nv)) i), .blk xb 113 [Pp nb2 0, .int .i64 0, .map (some mb)], .grp (ibxOwn 5 (withP rs2 p nv)), .blk b1 63 [.int .i64 p.idx, .int .i64 p.term, .int .i64 p.n, .int .i64 p.many, .slice Ab p.bytes.length cb], .blk b3 24 [.int .i64 0, .int .i64 0, .slice none 0 0, .slice none 0 0], .row (.slice A (joinI (withP rs2 p nv) i).length c) 5 1 ((joinI (withP rs2 p nv) i).length) (bv (joinI (withP rs2 p nv) i)), .row (.slice A49 (((readV (joinI (withP rs2 p nv) i)).1.conf).length) c50) 5 1 (((readV (joinI (withP rs2 p nv) i)).1.conf).length) (bv ((readV (joinI (withP rs2 p nv) i)).1.conf)), .row (.slice A53 (((readV (joinI (withP rs2 p nv) i)).1.data).length) c54) 5 1 (((readV (joinI (withP rs2 p nv) i)).1.data).length) (bv ((readV (joinI (withP rs2 p nv) i)).1.data)), .blk b57 24 [.int .i64 ((readV (joinI (withP rs2 p nv) i)).1.idx), .int .i64 ((readV (joinI (withP rs2 p nv) i)).1.term), .slice A49 (((readV (joinI (withP rs2 p nv) i)).1.conf).length) c50, .slice A53 (((readV (joinI (withP rs2 p nv) i)).1.data).length) c54]]) (by kernel_rfl)
    replace hH := nbox_own hH
    replace hH := (hH.sublist (.cons_cons _ (.cons_cons _ (.cons_cons _ (List.nil_sublist _)))))
    replace hH : Hp w w61 _ _ [.blk nb2 116 [.int .i64 p.term, .int .i64 p.idx], .kmap mb (intK .i64) (delN (kv (withP rs2 p nv)) i), .blk xb 113 [Pp nb2 0, .int .i64 0, .map (some mb)]] := hH
    replace hH := hH.nogrp
    replace hH := hH.pick [1, 2, 3, 0] (by kernel_rfl) (os' := [.kmap mb (intK .i64) (delN (kv (withP rs2 p nv)) i), .blk xb 113 [Pp nb2 0, .int .i64 0, .map (some mb)], .grp (ibxOwn 5 []), .blk nb2 116 [.int .i64 p.term, .int .i64 p.idx]]) (by kernel_rfl)
    replace hH := (hH.sublist (.cons_cons _ (.cons_cons _ (.cons_cons _ (.cons_cons _ (List.nil_sublist _))))))
    replace hH : Hp w w61 _ _ [.kmap mb (intK .i64) (delN (kv (withP rs2 p nv)) i), .blk xb 113 [Pp nb2 0, .int .i64 0, .map (some mb)], .grp (ibxOwn 5 []), .blk nb2 116 [.int .i64 p.term, .int .i64 p.idx]] := hH
    replace hH : Hp w w61 _ _ ([.kmap mb (intK .i64) (delN (kv (withP rs2 p nv)) i), .blk xb 113 [Pp nb2 0, .int .i64 0, .map (some mb)], .grp (ibxOwn 5 []), .blk nb2 116 [.int .i64 p.term, .int .i64 p.idx]] ++ []) := hH
    have hr := (show putI ⟨none, 0, []⟩ p nv = (⟨some (p.term, p.idx), 0, []⟩, Snp.none, false, 91) from by rw [putI_end nv hc1 hbase (by omega), ← hie]; rw [endI_bad2 hrd hnw])
    refine ⟨nv, nb2, delN (kv (withP rs2 p nv)) i, .slice none 0 0, .slice none 0 0, ?_⟩
    rw [hr]
    exact ⟨rfl, fun h => absurd rfl h, (((hH.close).nilRow 5 1).nilRow 5 1).turned⟩
  refine sw_cv 139 (.bool false) (by rw [hc9]) rfl ?_
  try simp only [Bool.not_eq_false', beq_iff_eq] at hc9
  have hww : (readV (joinI (withP rs2 p nv) i)).1.term = p.term ∧ (readV (joinI (withP rs2 p nv) i)).1.idx = p.idx := by have h9 := hc9; simp only [Bool.and_eq_true, beq_iff_eq] at h9; exact ⟨h9.1.symm, h9.2.symm⟩
  refine sw_skip ?_
  refine sw_next ?_
  refine sw_sr ?_
  refine gl_q rfl rfl rfl (rd_loadKA (m := 4) 10 (by kernel_rfl) hH rfl rfl (by kernel_rfl) [.int .i64 ((readV (joinI (withP rs2 p nv) i)).1.idx), .int .i64 ((readV (joinI (withP rs2 p nv) i)).1.term), .slice A49 (((readV (joinI (withP rs2 p nv) i)).1.conf).length) c50, .slice A53 (((readV (joinI (withP rs2 p nv) i)).1.data).length) c54] rfl rfl) ?_
  refine gl_st (st_storeKA (vs := [.int .i64 ((readV (joinI (withP rs2 p nv) i)).1.idx), .int .i64 ((readV (joinI (withP rs2 p nv) i)).1.term), .slice A49 (((readV (joinI (withP rs2 p nv) i)).1.conf).length) c50, .slice A53 (((readV (joinI (withP rs2 p nv) i)).1.data).length) c54]) 5 rfl rfl rfl hH rfl rfl (by kernel_rfl) (by kernel_rfl) rfl (by simp) [.int .i64 ((readV (joinI (withP rs2 p nv) i)).1.idx), .int .i64 ((readV (joinI (withP rs2 p nv) i)).1.term), .slice A49 (((readV (joinI (withP rs2 p nv) i)).1.conf).length) c50, .slice A53 (((readV (joinI (withP rs2 p nv) i)).1.data).length) c54] rfl ?_)
  clear hH; intro w62 hH
  replace hH : Hp w w62 _ _ [.kmap mb (intK .i64) (delN (kv (withP rs2 p nv)) i), .blk xb 113 [Pp nb2 0, .int .i64 0, .map (some mb)], .grp (ibxOwn 5 (withP rs2 p nv)), .grp (nbox b8 nb2 p), .blk b1 63 [.int .i64 p.idx, .int .i64 p.term, .int .i64 p.n, .int .i64 p.many, .slice Ab p.bytes.length cb], .blk b3 24 [.int .i64 ((readV (joinI (withP rs2 p nv) i)).1.idx), .int .i64 ((readV (joinI (withP rs2 p nv) i)).1.term), .slice A49 (((readV (joinI (withP rs2 p nv) i)).1.conf).length) c50, .slice A53 (((readV (joinI (withP rs2 p nv) i)).1.data).length) c54], .blk b8 116 [.int .i64 p.term, .int .i64 p.idx], .row (.slice A (joinI (withP rs2 p nv) i).length c) 5 1 ((joinI (withP rs2 p nv) i).length) (bv (joinI (withP rs2 p nv) i)), .row (.slice A49 (((readV (joinI (withP rs2 p nv) i)).1.conf).length) c50) 5 1 (((readV (joinI (withP rs2 p nv) i)).1.conf).length) (bv ((readV (joinI (withP rs2 p nv) i)).1.conf)), .row (.slice A53 (((readV (joinI (withP rs2 p nv) i)).1.data).length) c54) 5 1 (((readV (joinI (withP rs2 p nv) i)).1.data).length) (bv ((readV (joinI (withP rs2 p nv) i)).1.data)), .blk b57 24 [.int .i64 ((readV (joinI (withP rs2 p nv) i)).1.idx), .int .i64 ((readV (joinI (withP rs2 p nv) i)).1.term), .slice A49 (((readV (joinI (withP rs2 p nv) i)).1.conf).length) c50, .slice A53 (((readV (joinI (withP rs2 p nv) i)).1.data).length) c54]] := hH
  refine gl_ops 2 [(4, Pp b3 0), (5, .bool true), (6, .nilIface)] (by kernel_rfl) ?_
  refine gl_dn rfl ?_
  refine sw_ret ?_
  refine retC3 rfl (RS.cellA hH 5 (by kernel_rfl) rfl rfl (by kernel_rfl) [.int .i64 ((readV (joinI (withP rs2 p nv) i)).1.idx), .int .i64 ((readV (joinI (withP rs2 p nv) i)).1.term), .slice A49 (((readV (joinI (withP rs2 p nv) i)).1.conf).length) c50, .slice A53 (((readV (joinI (withP rs2 p nv) i)).1.data).length) c54] rfl rfl) (RS.tmp rfl) (RS.tmp rfl) ?_
  replace hH := hH.pick [3, 6, 0, 1, 2, 4, 5, 7, 8, 9, 10] (by kernel_rfl) (os' := [.grp (nbox b8 nb2 p), .blk b8 116 [.int .i64 p.term, .int .i64 p.idx], .kmap mb (intK .i64) (delN (kv (withP rs2 p nv)) i), .blk xb 113 [Pp nb2 0, .int .i64 0, .map (some mb)], .grp (ibxOwn 5 (withP rs2 p nv)), .blk b1 63 [.int .i64 p.idx, .int .i64 p.term, .int .i64 p.n, .int .i64 p.many, .slice Ab p.bytes.length cb], .blk b3 24 [.int .i64 ((readV (joinI (withP rs2 p nv) i)).1.idx), .int .i64 ((readV (joinI (withP rs2 p nv) i)).1.term), .slice A49 (((readV (joinI (withP rs2 p nv) i)).1.conf).length) c50, .slice A53 (((readV (joinI (withP rs2 p nv) i)).1.data).length) c54], .row (.slice A (joinI (withP rs2 p nv) i).length c) 5 1 ((joinI (withP rs2 p nv) i).length) (bv (joinI (withP rs2 p nv) i)), .row (.slice A49 (((readV (joinI (withP rs2 p nv) i)).1.conf).length) c50) 5 1 (((readV (joinI (withP rs2 p nv) i)).1.conf).length) (bv ((readV (joinI (withP rs2 p nv) i)).1.conf)), .row (.slice A53 (((readV (joinI (withP rs2 p nv) i)).1.data).length) c54) 5 1 (((readV (joinI (withP rs2 p nv) i)).1.data).length) (bv ((readV (joinI (withP rs2 p nv) i)).1.data)), .blk b57 24 [.int .i64 ((readV (joinI (withP rs2 p nv) i)).1.idx), .int .i64 ((readV (joinI (withP rs2 p nv) i)).1.term), .slice A49 (((readV (joinI (withP rs2 p nv) i)).1.conf).length) c50, .slice A53 (((readV (joinI (withP rs2 p nv) i)).1.data).length) c54]]) (by kernel_rfl)
  replace hH := nbox_own hH
  replace hH := (hH.sublist (.cons_cons _ (.cons_cons _ (.cons_cons _ (.cons _ (.cons _ (.cons _ (.cons _ (.cons_cons _ (.cons_cons _ (List.nil_sublist _)))))))))))
  replace hH : Hp w w62 _ _ [.blk nb2 116 [.int .i64 p.term, .int .i64 p.idx], .kmap mb (intK .i64) (delN (kv (withP rs2 p nv)) i), .blk xb 113 [Pp nb2 0, .int .i64 0, .map (some mb)], .row (.slice A49 (((readV (joinI (withP rs2 p nv) i)).1.conf).length) c50) 5 1 (((readV (joinI (withP rs2 p nv) i)).1.conf).length) (bv ((readV (joinI (withP rs2 p nv) i)).1.conf)), .row (.slice A53 (((readV (joinI (withP rs2 p nv) i)).1.data).length) c54) 5 1 (((readV (joinI (withP rs2 p nv) i)).1.data).length) (bv ((readV (joinI (withP rs2 p nv) i)).1.data))] := hH
  replace hH := hH.nogrp
  replace hH := hH.pick [1, 2, 5, 0, 3, 4] (by kernel_rfl) (os' := [.kmap mb (intK .i64) (delN (kv (withP rs2 p nv)) i), .blk xb 113 [Pp nb2 0, .int .i64 0, .map (some mb)], .grp (ibxOwn 5 []), .blk nb2 116 [.int .i64 p.term, .int .i64 p.idx], .row (.slice A49 (((readV (joinI (withP rs2 p nv) i)).1.conf).length) c50) 5 1 (((readV (joinI (withP rs2 p nv) i)).1.conf).length) (bv ((readV (joinI (withP rs2 p nv) i)).1.conf)), .row (.slice A53 (((readV (joinI (withP rs2 p nv) i)).1.data).length) c54) 5 1 (((readV (joinI (withP rs2 p nv) i)).1.data).length) (bv ((readV (joinI (withP rs2 p nv) i)).1.data))]) (by kernel_rfl)
  replace hH := (hH.sublist (.cons_cons _ (.cons_cons _ (.cons_cons _ (.cons_cons _ (.cons_cons _ (.cons_cons _ (List.nil_sublist _))))))))
  replace hH : Hp w w62 _ _ [.kmap mb (intK .i64) (delN (kv (withP rs2 p nv)) i), .blk xb 113 [Pp nb2 0, .int .i64 0, .map (some mb)], .grp (ibxOwn 5 []), .blk nb2 116 [.int .i64 p.term, .int .i64 p.idx], .row (.slice A49 (((readV (joinI (withP rs2 p nv) i)).1.conf).length) c50) 5 1 (((readV (joinI (withP rs2 p nv) i)).1.conf).length) (bv ((readV (joinI (withP rs2 p nv) i)).1.conf)), .row (.slice A53 (((readV (joinI (withP rs2 p nv) i)).1.data).length) c54) 5 1 (((readV (joinI (withP rs2 p nv) i)).1.data).length) (bv ((readV (joinI (withP rs2 p nv) i)).1.data))] := hH
  replace hH : Hp w w62 _ _ ([.kmap mb (intK .i64) (delN (kv (withP rs2 p nv)) i), .blk xb 113 [Pp nb2 0, .int .i64 0, .map (some mb)], .grp (ibxOwn 5 []), .blk nb2 116 [.int .i64 p.term, .int .i64 p.idx]] ++ [.row (.slice A49 (((readV (joinI (withP rs2 p nv) i)).1.conf).length) c50) 5 1 (((readV (joinI (withP rs2 p nv) i)).1.conf).length) (bv ((readV (joinI (withP rs2 p nv) i)).1.conf)), .row (.slice A53 (((readV (joinI (withP rs2 p nv) i)).1.data).length) c54) 5 1 (((readV (joinI (withP rs2 p nv) i)).1.data).length) (bv ((readV (joinI (withP rs2 p nv) i)).1.data))]) := hH
  have hr := (show putI ⟨none, 0, []⟩ p nv = (⟨some (p.term, p.idx), 0, []⟩, (readV (joinI (withP rs2 p nv) i)).1, true, 0) from by rw [putI_end nv hc1 hbase (by omega), ← hie]; rw [endI_ok hrd hww])
  refine ⟨nv, nb2, delN (kv (withP rs2 p nv)) i, .slice A49 (((readV (joinI (withP rs2 p nv) i)).1.conf).length) c50, .slice A53 (((readV (joinI (withP rs2 p nv) i)).1.data).length) c54, ?_⟩
  rw [hr]
  exact ⟨rfl, fun h => absurd rfl h, (hH.close).turned⟩
end Go.Proofs.YtjcchjgkkplamaaGreatDoor
