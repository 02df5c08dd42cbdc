/- Layer 20, the document's own inbox (muntinref20.Inbox): may, row. -/
import Derived.Test.YtjcchjgkkplamaaDoorRef20
import Derived.Test.YtjcchjgkkplamaaDoorSWD
set_option maxRecDepth 100000
set_option maxHeartbeats 2000000
set_option linter.unusedVariables false
set_option linter.unusedSimpArgs false
namespace Go.Proofs.YtjcchjgkkplamaaDoor
open Go.RowKit Go.SW
theorem mayP_false {p : Prt} (h : p.idx < 0 ∨ p.term < 0 ∨ p.n < 0 ∨ p.many < 1 ∨ 1024 < p.many ∨ p.many ≤ p.n) : mayP p = false := by
  cases hm : mayP p with
  | false => rfl
  | true => have := mayP_true hm; omega
/-- The document's rows, and which are there. -/
def rowsL (S : Ibx) : List Value := (List.range S.many).map fun (k : Nat) => Value.string (bs (rowOf S.rs (k : Int)))
def thereL (S : Ibx) : List Value := (List.range S.many).map fun (k : Nat) => Value.bool (has S.rs (k : Int))
theorem rowsL_at (S : Ibx) (k : Nat) (hk : k < S.many) : (rowsL S)[k * 1 + 0]? = some (.string (bs (rowOf S.rs (k : Int)))) := by simp [rowsL, hk]
theorem thereL_at (S : Ibx) (k : Nat) (hk : k < S.many) : (thereL S)[k * 1 + 0]? = some (.bool (has S.rs (k : Int))) := by simp [thereL, hk]

theorem RMay_ct (p : Prt) (vb : Value) (w : World) (hb : RB w.cell? vb p.bytes) (hp : p.I64) :
    Fun Tryd.prog 61 [.agg #[.int .i64 p.idx, .int .i64 p.term, .int .i64 p.n, .int .i64 p.many, vb]] w fun v w' => v = .bool (mayP p) ∧ Fresh w w' [] := by
  obtain ⟨Ab, cb, rfl, hb1, hb2⟩ := hb.row.form
  obtain ⟨hp1, hp2, hp3, hp4⟩ := hp
  refine fun_of_sw Tryd.func61 rfl 53 rfl rfl ?_
  have hH := Hp.start w
  refine sw_seq ?_
  refine sw_region ?_  -- R0 ref.go:126
  refine gl_st (st_boxH (cs := [.int .i64 p.idx, .int .i64 p.term, .int .i64 p.n, .int .i64 p.many, .slice Ab p.bytes.length cb]) rfl rfl rfl rfl hH ?_)
  clear hH; intro b1 w2 hH
  refine gl_ops 1 [(1, .pointer (some ⟨b1, 0, none⟩))] (by kernel_rfl) ?_
  refine gl_done rfl ?_
  refine sw_next ?_
  refine sw_seq ?_
  refine sw_seq ?_
  refine sw_region ?_  -- R1 ref.go:127
  refine gl_ops 1 [(1, .pointer (some ⟨b1, 0, none⟩)), (3, .pointer (some ⟨b1, 0, none⟩))] (by kernel_rfl) ?_
  refine gl_q rfl rfl rfl (rd_loadK 0 (by kernel_rfl) hH rfl rfl rfl) ?_
  refine gl_ops 2 [(1, .pointer (some ⟨b1, 0, none⟩)), (6, .bool (decide ((p.idx : Int) < (0 : Int))))] (by kernel_rfl) ?_
  refine gl_split 6 (b := decide ((p.idx : Int) < (0 : Int))) rfl (fun hg1 => ?_) (fun hg1 => ?_)
  ·
    try simp only [decide_eq_true_eq, beq_iff_eq, bne_iff_ne, ne_eq, Bool.not_eq_true', beq_eq_false_iff_ne, bne_eq_false_iff_eq, decide_eq_false_iff_not, Int.not_lt, Int.not_le] at hg1
    refine gl_ops 26 [(1, .pointer (some ⟨b1, 0, none⟩)), (32, .bool true)] (by kernel_rfl) ?_
    refine gl_done rfl ?_
    refine sw_next ?_
    refine sw_true rfl rfl ?_
    refine sw_seq ?_
    refine sw_region ?_  -- R2 ref.go:128
    refine gl_ops 1 [(2, .bool false)] (by kernel_rfl) ?_
    refine gl_done rfl ?_
    refine sw_next ?_
    refine sw_ret ?_
    refine thR ?_
    refine ret1 rfl rfl  ?_
    exact ⟨by rw [mayP_false (by omega)], (hH.sublist (List.nil_sublist _)).fresh⟩
  try simp only [decide_eq_false_iff_not, beq_eq_false_iff_ne, bne_eq_false_iff_eq, ne_eq, Decidable.not_not, Int.not_lt, Int.not_le, Bool.not_eq_false', beq_iff_eq, bne_iff_ne, decide_eq_true_eq] at hg1
  refine gl_ops 1 [(1, .pointer (some ⟨b1, 0, none⟩)), (6, .bool false), (7, .pointer (some ⟨b1, 1, none⟩))] (by kernel_rfl) ?_
  refine gl_q rfl rfl rfl (rd_loadK 0 (by kernel_rfl) hH rfl rfl rfl) ?_
  refine gl_ops 3 [(1, .pointer (some ⟨b1, 0, none⟩)), (11, .bool (decide ((p.term : Int) < (0 : Int))))] (by kernel_rfl) ?_
  refine gl_split 11 (b := decide ((p.term : Int) < (0 : Int))) rfl (fun hg3 => ?_) (fun hg3 => ?_)
  ·
    try simp only [decide_eq_true_eq, beq_iff_eq, bne_iff_ne, ne_eq, Bool.not_eq_true', beq_eq_false_iff_ne, bne_eq_false_iff_eq, decide_eq_false_iff_not, Int.not_lt, Int.not_le] at hg3
    refine gl_ops 21 [(1, .pointer (some ⟨b1, 0, none⟩)), (32, .bool true)] (by kernel_rfl) ?_
    refine gl_done rfl ?_
    refine sw_next ?_
    refine sw_true rfl rfl ?_
    refine sw_seq ?_
    refine sw_region ?_  -- R2 ref.go:128
    refine gl_ops 1 [(2, .bool false)] (by kernel_rfl) ?_
    refine gl_done rfl ?_
    refine sw_next ?_
    refine sw_ret ?_
    refine thR ?_
    refine ret1 rfl rfl  ?_
    exact ⟨by rw [mayP_false (by omega)], (hH.sublist (List.nil_sublist _)).fresh⟩
  try simp only [decide_eq_false_iff_not, beq_eq_false_iff_ne, bne_eq_false_iff_eq, ne_eq, Decidable.not_not, Int.not_lt, Int.not_le, Bool.not_eq_false', beq_iff_eq, bne_iff_ne, decide_eq_true_eq] at hg3
  refine gl_ops 1 [(1, .pointer (some ⟨b1, 0, none⟩)), (11, .bool false), (12, .pointer (some ⟨b1, 2, none⟩))] (by kernel_rfl) ?_
  refine gl_q rfl rfl rfl (rd_loadK 0 (by kernel_rfl) hH rfl rfl rfl) ?_
  refine gl_ops 3 [(1, .pointer (some ⟨b1, 0, none⟩)), (16, .bool (decide ((p.n : Int) < (0 : Int))))] (by kernel_rfl) ?_
  refine gl_split 16 (b := decide ((p.n : Int) < (0 : Int))) rfl (fun hg5 => ?_) (fun hg5 => ?_)
  ·
    try simp only [decide_eq_true_eq, beq_iff_eq, bne_iff_ne, ne_eq, Bool.not_eq_true', beq_eq_false_iff_ne, bne_eq_false_iff_eq, decide_eq_false_iff_not, Int.not_lt, Int.not_le] at hg5
    refine gl_ops 16 [(1, .pointer (some ⟨b1, 0, none⟩)), (32, .bool true)] (by kernel_rfl) ?_
    refine gl_done rfl ?_
    refine sw_next ?_
    refine sw_true rfl rfl ?_
    refine sw_seq ?_
    refine sw_region ?_  -- R2 ref.go:128
    refine gl_ops 1 [(2, .bool false)] (by kernel_rfl) ?_
    refine gl_done rfl ?_
    refine sw_next ?_
    refine sw_ret ?_
    refine thR ?_
    refine ret1 rfl rfl  ?_
    exact ⟨by rw [mayP_false (by omega)], (hH.sublist (List.nil_sublist _)).fresh⟩
  try simp only [decide_eq_false_iff_not, beq_eq_false_iff_ne, bne_eq_false_iff_eq, ne_eq, Decidable.not_not, Int.not_lt, Int.not_le, Bool.not_eq_false', beq_iff_eq, bne_iff_ne, decide_eq_true_eq] at hg5
  refine gl_ops 1 [(1, .pointer (some ⟨b1, 0, none⟩)), (16, .bool false), (17, .pointer (some ⟨b1, 3, none⟩))] (by kernel_rfl) ?_
  refine gl_q rfl rfl rfl (rd_loadK 0 (by kernel_rfl) hH rfl rfl rfl) ?_
  refine gl_ops 3 [(1, .pointer (some ⟨b1, 0, none⟩)), (21, .bool (decide ((p.many : Int) < (1 : Int))))] (by kernel_rfl) ?_
  refine gl_split 21 (b := decide ((p.many : Int) < (1 : Int))) rfl (fun hg7 => ?_) (fun hg7 => ?_)
  ·
    try simp only [decide_eq_true_eq, beq_iff_eq, bne_iff_ne, ne_eq, Bool.not_eq_true', beq_eq_false_iff_ne, bne_eq_false_iff_eq, decide_eq_false_iff_not, Int.not_lt, Int.not_le] at hg7
    refine gl_ops 11 [(1, .pointer (some ⟨b1, 0, none⟩)), (32, .bool true)] (by kernel_rfl) ?_
    refine gl_done rfl ?_
    refine sw_next ?_
    refine sw_true rfl rfl ?_
    refine sw_seq ?_
    refine sw_region ?_  -- R2 ref.go:128
    refine gl_ops 1 [(2, .bool false)] (by kernel_rfl) ?_
    refine gl_done rfl ?_
    refine sw_next ?_
    refine sw_ret ?_
    refine thR ?_
    refine ret1 rfl rfl  ?_
    exact ⟨by rw [mayP_false (by omega)], (hH.sublist (List.nil_sublist _)).fresh⟩
  try simp only [decide_eq_false_iff_not, beq_eq_false_iff_ne, bne_eq_false_iff_eq, ne_eq, Decidable.not_not, Int.not_lt, Int.not_le, Bool.not_eq_false', beq_iff_eq, bne_iff_ne, decide_eq_true_eq] at hg7
  refine gl_ops 1 [(1, .pointer (some ⟨b1, 0, none⟩)), (21, .bool false), (22, .pointer (some ⟨b1, 3, none⟩))] (by kernel_rfl) ?_
  refine gl_q rfl rfl rfl (rd_loadK 0 (by kernel_rfl) hH rfl rfl rfl) ?_
  refine gl_ops 3 [(1, .pointer (some ⟨b1, 0, none⟩)), (26, .bool (decide ((p.many : Int) > (1024 : Int))))] (by kernel_rfl) ?_
  refine gl_split 26 (b := decide ((p.many : Int) > (1024 : Int))) rfl (fun hg9 => ?_) (fun hg9 => ?_)
  ·
    try simp only [decide_eq_true_eq, beq_iff_eq, bne_iff_ne, ne_eq, Bool.not_eq_true', beq_eq_false_iff_ne, bne_eq_false_iff_eq, decide_eq_false_iff_not, Int.not_lt, Int.not_le] at hg9
    refine gl_ops 6 [(1, .pointer (some ⟨b1, 0, none⟩)), (32, .bool true)] (by kernel_rfl) ?_
    refine gl_done rfl ?_
    refine sw_next ?_
    refine sw_true rfl rfl ?_
    refine sw_seq ?_
    refine sw_region ?_  -- R2 ref.go:128
    refine gl_ops 1 [(2, .bool false)] (by kernel_rfl) ?_
    refine gl_done rfl ?_
    refine sw_next ?_
    refine sw_ret ?_
    refine thR ?_
    refine ret1 rfl rfl  ?_
    exact ⟨by rw [mayP_false (by omega)], (hH.sublist (List.nil_sublist _)).fresh⟩
  try simp only [decide_eq_false_iff_not, beq_eq_false_iff_ne, bne_eq_false_iff_eq, ne_eq, Decidable.not_not, Int.not_lt, Int.not_le, Bool.not_eq_false', beq_iff_eq, bne_iff_ne, decide_eq_true_eq] at hg9
  refine gl_ops 1 [(1, .pointer (some ⟨b1, 0, none⟩)), (26, .bool false), (27, .pointer (some ⟨b1, 2, none⟩))] (by kernel_rfl) ?_
  refine gl_q rfl rfl rfl (rd_loadK 0 (by kernel_rfl) hH rfl rfl rfl) ?_
  refine gl_ops 1 [(1, .pointer (some ⟨b1, 0, none⟩)), (26, .bool false), (28, .int .i64 p.n), (29, .pointer (some ⟨b1, 3, none⟩))] (by kernel_rfl) ?_
  refine gl_q rfl rfl rfl (rd_loadK 0 (by kernel_rfl) hH rfl rfl rfl) ?_
  refine gl_ops 2 [(1, .pointer (some ⟨b1, 0, none⟩)), (32, .bool (decide ((p.n : Int) ≥ (p.many : Int))))] (by kernel_rfl) ?_
  refine gl_done rfl ?_
  refine sw_next ?_
  refine sw_cond rfl rfl (fun hc11 => ?_) (fun hc11 => ?_)
  ·
    try simp only [decide_eq_true_eq, beq_iff_eq, bne_iff_ne, ne_eq, Bool.not_eq_true', beq_eq_false_iff_ne, bne_eq_false_iff_eq, decide_eq_false_iff_not, Int.not_lt, Int.not_le] at hc11
    refine sw_seq ?_
    refine sw_region ?_  -- R2 ref.go:128
    refine gl_ops 1 [(2, .bool false)] (by kernel_rfl) ?_
    refine gl_done rfl ?_
    refine sw_next ?_
    refine sw_ret ?_
    refine thR ?_
    refine ret1 rfl rfl  ?_
    exact ⟨by rw [mayP_false (by omega)], (hH.sublist (List.nil_sublist _)).fresh⟩
  try simp only [decide_eq_false_iff_not, beq_eq_false_iff_ne, bne_eq_false_iff_eq, ne_eq, Decidable.not_not, Int.not_lt, Int.not_le, Bool.not_eq_false', beq_iff_eq, bne_iff_ne, decide_eq_true_eq] at hc11
  refine sw_skip ?_
  refine sw_next ?_
  refine sw_seq ?_
  refine sw_seq ?_
  refine sw_region ?_  -- R3 ref.go:130
  refine gl_ops 1 [(1, .pointer (some ⟨b1, 0, none⟩)), (33, .pointer (some ⟨b1, 2, none⟩))] (by kernel_rfl) ?_
  refine gl_q rfl rfl rfl (rd_loadK 0 (by kernel_rfl) hH rfl rfl rfl) ?_
  refine gl_ops 1 [(1, .pointer (some ⟨b1, 0, none⟩)), (34, .int .i64 p.n), (35, .pointer (some ⟨b1, 3, none⟩))] (by kernel_rfl) ?_
  refine gl_q rfl rfl rfl (rd_loadK 0 (by kernel_rfl) hH rfl rfl rfl) ?_
  refine gl_ops 1 [(1, .pointer (some ⟨b1, 0, none⟩)), (34, .int .i64 p.n), (37, .int .i64 (IntKind.i64.wrap (p.many - 1)))] (by kernel_rfl) ?_
  refine gl_cv 37 (.int .i64 (p.many - 1)) (cv_i64 (by omega)) rfl ?_
  refine gl_ops 1 [(1, .pointer (some ⟨b1, 0, none⟩)), (38, .bool (decide ((p.n : Int) < (p.many - 1))))] (by kernel_rfl) ?_
  refine gl_done rfl ?_
  refine sw_next ?_
  refine sw_cond rfl rfl (fun hc12 => ?_) (fun hc12 => ?_)
  ·
    try simp only [decide_eq_true_eq, beq_iff_eq, bne_iff_ne, ne_eq, Bool.not_eq_true', beq_eq_false_iff_ne, bne_eq_false_iff_eq, decide_eq_false_iff_not, Int.not_lt, Int.not_le] at hc12
    refine sw_seq ?_
    refine sw_region ?_  -- R4 ref.go:131
    refine gl_ops 1 [(39, .pointer (some ⟨b1, 4, none⟩))] (by kernel_rfl) ?_
    refine gl_q rfl rfl rfl (rd_loadK 0 (by kernel_rfl) hH rfl rfl rfl) ?_
    refine gl_q rfl rfl rfl (rd_len (e := 5) (by kernel_rfl) rfl) ?_
    refine gl_ops 2 [(2, .bool (((p.bytes.length : Nat) : Int) == (512 : Int)))] (by kernel_rfl) ?_
    refine gl_done rfl ?_
    refine sw_next ?_
    refine sw_ret ?_
    refine thR ?_
    refine ret1 rfl rfl  ?_
    exact ⟨by unfold mayP; rw [if_neg (by omega), if_neg (by omega), if_neg (by omega), if_pos (by omega)]; congr 1; rw [Bool.eq_iff_iff]; simp only [beq_iff_eq]; omega, (hH.sublist (List.nil_sublist _)).fresh⟩
  try simp only [decide_eq_false_iff_not, beq_eq_false_iff_ne, bne_eq_false_iff_eq, ne_eq, Decidable.not_not, Int.not_lt, Int.not_le, Bool.not_eq_false', beq_iff_eq, bne_iff_ne, decide_eq_true_eq] at hc12
  refine sw_skip ?_
  refine sw_next ?_
  refine sw_seq ?_
  refine sw_region ?_  -- R5 ref.go:133
  refine gl_ops 1 [(1, .pointer (some ⟨b1, 0, none⟩)), (43, .pointer (some ⟨b1, 4, none⟩))] (by kernel_rfl) ?_
  refine gl_q rfl rfl rfl (rd_loadK 0 (by kernel_rfl) hH rfl rfl rfl) ?_
  refine gl_q rfl rfl rfl (rd_len (e := 5) (by kernel_rfl) rfl) ?_
  refine gl_ops 2 [(1, .pointer (some ⟨b1, 0, none⟩)), (47, .bool (decide (((p.bytes.length : Nat) : Int) ≥ (1 : Int))))] (by kernel_rfl) ?_
  refine gl_split 47 (b := decide (((p.bytes.length : Nat) : Int) ≥ (1 : Int))) rfl (fun hg13 => ?_) (fun hg13 => ?_)
  ·
    try simp only [decide_eq_true_eq, beq_iff_eq, bne_iff_ne, ne_eq, Bool.not_eq_true', beq_eq_false_iff_ne, bne_eq_false_iff_eq, decide_eq_false_iff_not, Int.not_lt, Int.not_le] at hg13
    refine gl_ops 1 [(47, .bool true), (48, .pointer (some ⟨b1, 4, none⟩))] (by kernel_rfl) ?_
    refine gl_q rfl rfl rfl (rd_loadK 0 (by kernel_rfl) hH rfl rfl rfl) ?_
    refine gl_q rfl rfl rfl (rd_len (e := 5) (by kernel_rfl) rfl) ?_
    refine gl_ops 3 [(2, .bool (decide (((p.bytes.length : Nat) : Int) ≤ (512 : Int))))] (by kernel_rfl) ?_
    refine gl_done rfl ?_
    refine sw_next ?_
    refine sw_ret ?_
    refine ret1 rfl rfl  ?_
    exact ⟨by unfold mayP; rw [if_neg (by omega), if_neg (by omega), if_neg (by omega), if_neg (by omega), if_pos (by omega)]; congr 1; rw [Bool.eq_iff_iff]; simp only [decide_eq_true_eq]; omega, (hH.sublist (List.nil_sublist _)).fresh⟩
  try simp only [decide_eq_false_iff_not, beq_eq_false_iff_ne, bne_eq_false_iff_eq, ne_eq, Decidable.not_not, Int.not_lt, Int.not_le, Bool.not_eq_false', beq_iff_eq, bne_iff_ne, decide_eq_true_eq] at hg13
  refine gl_ops 6 [(2, .bool false)] (by kernel_rfl) ?_
  refine gl_done rfl ?_
  refine sw_next ?_
  refine sw_ret ?_
  refine ret1 rfl rfl  ?_
  exact ⟨by unfold mayP; rw [if_neg (by omega), if_neg (by omega), if_neg (by omega), if_neg (by omega), if_neg (by omega)], (hH.sublist (List.nil_sublist _)).fresh⟩
theorem RRow_ct (yb : Nat) (rv tv : Value) (S : Ibx) (p : Prt) (vb : Value) (k : Nat) (w : World) (h4 : w.cell? ⟨yb, 4, none⟩ = some rv) (h5 : w.cell? ⟨yb, 5, none⟩ = some tv) (hR : Row w.cell? rv 1 S.many (rowsL S)) (hT : Row w.cell? tv 1 S.many (thereL S)) (hb : RB w.cell? vb p.bytes) (hk : p.n = (k : Int)) (hkm : k < S.many) :
    Fun Tryd.prog 62 [.pointer (some ⟨yb, 0, none⟩), .agg #[.int .i64 p.idx, .int .i64 p.term, .int .i64 p.n, .int .i64 p.many, vb]] w fun v w' => v = .string (bs (if has S.rs p.n then rowOf S.rs p.n else p.bytes)) ∧ Fresh w w' [] := by
  obtain ⟨Ab, cb, rfl, hb1, hb2⟩ := hb.row.form
  obtain ⟨Ar, cr, rfl, hR1, hR2⟩ := hR.form
  obtain ⟨At, ct, rfl, hT1, hT2⟩ := hT.form
  refine fun_of_sw Tryd.func62 rfl 24 rfl rfl ?_
  have hH := Hp.start w
  refine sw_seq ?_
  refine sw_region ?_  -- R0 ref.go:175
  refine gl_st (st_boxH (cs := [.int .i64 p.idx, .int .i64 p.term, .int .i64 p.n, .int .i64 p.many, .slice Ab p.bytes.length cb]) rfl rfl rfl rfl hH ?_)
  clear hH; intro b1 w2 hH
  refine gl_ops 1 [(0, .pointer (some ⟨yb, 0, none⟩)), (3, .pointer (some ⟨b1, 0, none⟩))] (by kernel_rfl) ?_
  refine gl_done rfl ?_
  refine sw_next ?_
  refine sw_seq ?_
  refine sw_seq ?_
  refine sw_draw (by kernel_rfl) (fun w_ => Hp w w_ (w.cell?) [] [.blk b1 48 [.int .i64 p.idx, .int .i64 p.term, .int .i64 p.n, .int .i64 p.many, .slice Ab p.bytes.length cb]]) ?_  -- R1 ref.go:176
  replace hH := hH.drew
  generalize { w2 with drawn := w2.drawn + 1 } = w3 at hH ⊢
  refine gd_pure 0 rfl (by kernel_rfl) (PQ.th (PQ.th PQ.body)) (hH.sublist (.cons_cons _ (List.nil_sublist _))) rfl rfl (.pointer (some ⟨yb, 0, none⟩)) (by kernel_rfl) ?_
  refine gd_pure 1 rfl (by kernel_rfl) (PQ.th (PQ.th PQ.body)) (hH.sublist (.cons_cons _ (List.nil_sublist _))) rfl rfl (.pointer (some ⟨yb, 0, none⟩)) (by kernel_rfl) ?_
  refine gd_pure 2 rfl (by kernel_rfl) (PQ.th (PQ.th PQ.body)) (hH.sublist (.cons_cons _ (List.nil_sublist _))) rfl rfl (.pointer (some ⟨yb, 5, none⟩)) (by kernel_rfl) ?_
  refine gd_keep [(0, .pointer (some ⟨yb, 0, none⟩)), (3, .pointer (some ⟨b1, 0, none⟩)), (7, .pointer (some ⟨yb, 5, none⟩))] (by kernel_rfl) ?_
  refine gd_q 3 rfl (by kernel_rfl) (PQ.th (PQ.th PQ.body)) (hH.sublist (.cons_cons _ (List.nil_sublist _))) rfl rfl (fun w_ hS => (rd_load (by kernel_rfl) rfl (hS.zin _ _ h5))) ?_
  refine gd_pure 4 rfl (by kernel_rfl) (PQ.th (PQ.th PQ.body)) (hH.sublist (.cons_cons _ (List.nil_sublist _))) rfl rfl (.pointer (some ⟨b1, 2, none⟩)) (by kernel_rfl) ?_
  refine gd_q 5 rfl (by kernel_rfl) (PQ.th (PQ.th PQ.body)) (hH.sublist (.cons_cons _ (List.nil_sublist _))) rfl rfl (fun w_ hS => (rd_loadK 0 (by kernel_rfl) hS rfl rfl rfl)) ?_
  refine gd_cv 10 (.int .i64 ((k : Nat) : Int)) (by rw [hk]) rfl ?_
  refine gd_keep [(0, .pointer (some ⟨yb, 0, none⟩)), (3, .pointer (some ⟨b1, 0, none⟩)), (8, .slice At S.many ct), (10, .int .i64 ((k : Nat) : Int))] (by kernel_rfl) ?_
  obtain ⟨p4, hi6, hp5⟩ := hT.idx k (by omega) (by decide)
  refine gd_q 6 rfl (by kernel_rfl) (PQ.th (PQ.th PQ.body)) (hH.sublist (.cons_cons _ (List.nil_sublist _))) rfl rfl (fun w_ hS => (rd_idx (e := 4) (m := 1) (by kernel_rfl) (by kernel_rfl) rfl rfl hi6)) ?_
  refine gd_q 7 rfl (by kernel_rfl) (PQ.th (PQ.th PQ.body)) (hH.sublist (.cons_cons _ (List.nil_sublist _))) rfl rfl (fun w_ hS => (rd_load (by kernel_rfl) rfl (hS.zin _ _ (hp5 0 _ (by decide) (thereL_at S k (by omega)))))) ?_
  refine gd_done (by kernel_rfl) ?_
  refine at_sub [(0, .pointer (some ⟨yb, 0, none⟩)), (3, .pointer (some ⟨b1, 0, none⟩)), (12, .bool (has S.rs ((k : Nat) : Int)))] (Sub.of_eq (by kernel_rfl)) ?_
  refine sw_next ?_
  refine sw_cond rfl rfl (fun hc1 => ?_) (fun hc1 => ?_)
  ·
    try simp only [decide_eq_true_eq, beq_iff_eq, bne_iff_ne, ne_eq, Bool.not_eq_true', beq_eq_false_iff_ne, bne_eq_false_iff_eq, decide_eq_false_iff_not, Int.not_lt, Int.not_le] at hc1
    refine sw_seq ?_
    refine sw_draw (by kernel_rfl) (fun w_ => Hp w w_ (w.cell?) [] [.blk b1 48 [.int .i64 p.idx, .int .i64 p.term, .int .i64 p.n, .int .i64 p.many, .slice Ab p.bytes.length cb]]) ?_  -- R2 ref.go:177
    replace hH := hH.drew
    generalize { w3 with drawn := w3.drawn + 1 } = w7 at hH ⊢
    refine gd_pure 0 rfl (by kernel_rfl) (PQ.th (PQ.th PQ.body)) (hH.sublist (.cons_cons _ (List.nil_sublist _))) rfl rfl (.pointer (some ⟨yb, 0, none⟩)) (by kernel_rfl) ?_
    refine gd_pure 1 rfl (by kernel_rfl) (PQ.th (PQ.th PQ.body)) (hH.sublist (.cons_cons _ (List.nil_sublist _))) rfl rfl (.pointer (some ⟨yb, 0, none⟩)) (by kernel_rfl) ?_
    refine gd_pure 2 rfl (by kernel_rfl) (PQ.th (PQ.th PQ.body)) (hH.sublist (.cons_cons _ (List.nil_sublist _))) rfl rfl (.pointer (some ⟨yb, 4, none⟩)) (by kernel_rfl) ?_
    refine gd_keep [(3, .pointer (some ⟨b1, 0, none⟩)), (15, .pointer (some ⟨yb, 4, none⟩))] (by kernel_rfl) ?_
    refine gd_q 3 rfl (by kernel_rfl) (PQ.th (PQ.th PQ.body)) (hH.sublist (.cons_cons _ (List.nil_sublist _))) rfl rfl (fun w_ hS => (rd_load (by kernel_rfl) rfl (hS.zin _ _ h4))) ?_
    refine gd_pure 4 rfl (by kernel_rfl) (PQ.th (PQ.th PQ.body)) (hH.sublist (.cons_cons _ (List.nil_sublist _))) rfl rfl (.pointer (some ⟨b1, 2, none⟩)) (by kernel_rfl) ?_
    refine gd_q 5 rfl (by kernel_rfl) (PQ.th (PQ.th PQ.body)) (hH.sublist (.cons_cons _ (List.nil_sublist _))) rfl rfl (fun w_ hS => (rd_loadK 0 (by kernel_rfl) hS rfl rfl rfl)) ?_
    refine gd_cv 18 (.int .i64 ((k : Nat) : Int)) (by rw [hk]) rfl ?_
    refine gd_keep [(16, .slice Ar S.many cr), (18, .int .i64 ((k : Nat) : Int))] (by kernel_rfl) ?_
    obtain ⟨p8, hi10, hp9⟩ := hR.idx k (by omega) (by decide)
    refine gd_q 6 rfl (by kernel_rfl) (PQ.th (PQ.th PQ.body)) (hH.sublist (.cons_cons _ (List.nil_sublist _))) rfl rfl (fun w_ hS => (rd_idx (e := 9) (m := 1) (by kernel_rfl) (by kernel_rfl) rfl rfl hi10)) ?_
    refine gd_q 7 rfl (by kernel_rfl) (PQ.th (PQ.th PQ.body)) (hH.sublist (.cons_cons _ (List.nil_sublist _))) rfl rfl (fun w_ hS => (rd_load (by kernel_rfl) rfl (hS.zin _ _ (hp9 0 _ (by decide) (rowsL_at S k (by omega)))))) ?_
    refine gd_pure 8 rfl (by kernel_rfl) (PQ.th (PQ.th PQ.body)) (hH.sublist (.cons_cons _ (List.nil_sublist _))) rfl rfl (.string (bs (rowOf S.rs ((k : Nat) : Int)))) (by kernel_rfl) ?_
    refine gd_keep [(4, .string (bs (rowOf S.rs ((k : Nat) : Int))))] (by kernel_rfl) ?_
    refine gd_done (by kernel_rfl) ?_
    refine at_sub [(4, .string (bs (rowOf S.rs ((k : Nat) : Int))))] (Sub.of_eq (by kernel_rfl)) ?_
    refine sw_next ?_
    refine sw_ret ?_
    refine thR ?_
    refine ret1 rfl rfl  ?_
    exact ⟨by rw [hk, if_pos hc1], (hH.sublist (List.nil_sublist _)).fresh⟩
  try simp only [decide_eq_false_iff_not, beq_eq_false_iff_ne, bne_eq_false_iff_eq, ne_eq, Decidable.not_not, Int.not_lt, Int.not_le, Bool.not_eq_false', beq_iff_eq, bne_iff_ne, decide_eq_true_eq] at hc1
  refine sw_skip ?_
  refine sw_next ?_
  refine sw_seq ?_
  refine sw_region ?_  -- R3 ref.go:179
  refine gl_ops 1 [(21, .pointer (some ⟨b1, 4, none⟩))] (by kernel_rfl) ?_
  refine gl_q rfl rfl rfl (rd_loadK 0 (by kernel_rfl) hH rfl rfl rfl) ?_
  refine gl_q rfl rfl rfl (rd_str (e := 5) (by kernel_rfl) (by kernel_rfl) (by kernel_rfl) rfl (hb.mono hH.zin)) ?_
  refine gl_ops 1 [(4, .string (bs p.bytes))] (by kernel_rfl) ?_
  refine gl_done rfl ?_
  refine sw_next ?_
  refine sw_ret ?_
  refine ret1 rfl rfl  ?_
  exact ⟨by rw [hk, if_neg (by rw [hc1]; simp)], (hH.sublist (List.nil_sublist _)).fresh⟩
end Go.Proofs.YtjcchjgkkplamaaDoor
