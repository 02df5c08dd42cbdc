/- Layer 20, the document's own inbox (muntinref20.Inbox): Put: what it answers: the same as the program's. -/
import Derived.Test.YtjcchjgkkplamaaDoorRInboxP
import Derived.Test.YtjcchjgkkplamaaDoorSWT
set_option maxRecDepth 100000
set_option maxHeartbeats 4000000
set_option linter.unusedVariables false
set_option linter.unusedSimpArgs false
namespace Go.Proofs.YtjcchjgkkplamaaDoor
open Go.RowKit Go.SW
/-- What the document's inbox owns. -/
def rbxO (yb : Nat) (rv tv : Value) (S : Ibx) : List Own :=
  [.blk yb 58 [.bool S.new.isSome, .int .i64 (S.new.getD (0, 0)).2, .int .i64 (S.new.getD (0, 0)).1, .bool (decide (S.many ≠ 0)), rv, tv], .row rv 9 1 S.many (rowsL S), .row tv 4 1 S.many (thereL S)]
theorem rbx_forms {w : World} {yb : Nat} {rv tv : Value} {u : Option (Int × Int)} {m : Nat} {rs : List (Int × Value × List UInt8)} (hM : Mine w [.grp (rbxO yb rv tv ⟨u, m, rs⟩)]) : ∃ Ar cr At ct, rv = .slice Ar m cr ∧ tv = .slice At m ct := by
  have h := hM.1 _ (List.mem_singleton.2 rfl)
  have h1 : w.ownsRow 0 9 1 rv m (rowsL ⟨u, m, rs⟩) := h (.row rv 9 1 m (rowsL ⟨u, m, rs⟩)) (by simp [rbxO])
  have h2 : w.ownsRow 0 4 1 tv m (thereL ⟨u, m, rs⟩) := h (.row tv 4 1 m (thereL ⟨u, m, rs⟩)) (by simp [rbxO])
  obtain ⟨A, c, e1, _⟩ := (Row.of_own h1).form
  obtain ⟨A', c', e2, _⟩ := (Row.of_own h2).form
  exact ⟨A, c, A', c', e1, e2⟩
theorem rel_new {sm od : Bool} {tn ix a b : Int} (hsm : sm = true ↔ a = tn ∧ b = ix) (hod : od = true ↔ a < tn ∨ a = tn ∧ b < ix) (h1 : sm = false) (h2 : od = false) : tn < a ∨ tn = a ∧ ix < b := by
  have h3 : ¬ (a = tn ∧ b = ix) := fun h => by rw [hsm.2 h] at h1; cases h1
  have h4 : ¬ (a < tn ∨ a = tn ∧ b < ix) := fun h => by rw [hod.2 h] at h2; cases h2
  omega

theorem RPutS_ct (yb : Nat) (rv tv : Value) (tn ix : Int) (mn : Nat) (rs : List (Int × Value × List UInt8)) (p : Prt) (vb : Value) (nv : Value) (w : World) (hM : Mine w [.grp (rbxO yb rv tv ⟨some (tn, ix), mn, rs⟩)]) (hb : RB (off w (blksOf [.grp (rbxO yb rv tv ⟨some (tn, ix), mn, rs⟩)])) vb p.bytes) (hp : p.I64) (hS : Ibx.Ok ⟨some (tn, ix), mn, rs⟩) (hK : Ibx.Keyed ⟨some (tn, ix), mn, rs⟩) :
    Fun Tryd.prog 26 [.pointer (some ⟨yb, 0, none⟩), .agg #[.int .i64 p.idx, .int .i64 p.term, .int .i64 p.n, .int .i64 p.many, vb]] w fun v w' => ∃ rv' tv' v1 v2,
      v = .tuple #[.agg #[.int .i64 (putI ⟨some (tn, ix), mn, rs⟩ p nv).2.1.idx, .int .i64 (putI ⟨some (tn, ix), mn, rs⟩ p nv).2.1.term, v1, v2], .bool (putI ⟨some (tn, ix), mn, rs⟩ p nv).2.2.1, .int .i64 (((putI ⟨some (tn, ix), mn, rs⟩ p nv).2.2.2 : Nat) : Int)] ∧
      Turn w w' [.grp (rbxO yb rv tv ⟨some (tn, ix), mn, rs⟩)] [.grp (rbxO yb rv' tv' (putI ⟨some (tn, ix), mn, rs⟩ p nv).1), .row v1 5 1 (putI ⟨some (tn, ix), mn, rs⟩ p nv).2.1.conf.length (bv (putI ⟨some (tn, ix), mn, rs⟩ p nv).2.1.conf), .row v2 5 1 (putI ⟨some (tn, ix), mn, rs⟩ p nv).2.1.data.length (bv (putI ⟨some (tn, ix), mn, rs⟩ p nv).2.1.data)] := by
  obtain ⟨Ar, cr, At, ct, rfl, rfl⟩ := rbx_forms hM
  obtain ⟨Ab, cb, rfl, hb1, hb2⟩ := hb.row.form
  have hp9 := hp
  obtain ⟨hp1, hp2, hp3, hp4⟩ := hp9
  have hmn4 := hS.many
  simp only at hmn4
  refine fun_of_sw Tryd.func26 rfl 201 rfl rfl ?_
  have hH : Hp w w (off w (blksOf [.grp (rbxO yb (.slice Ar mn cr) (.slice At mn ct) ⟨some (tn, ix), mn, rs⟩)])) (blksOf [.grp (rbxO yb (.slice Ar mn cr) (.slice At mn ct) ⟨some (tn, ix), mn, rs⟩)]) (rbxO yb (.slice Ar mn cr) (.slice At mn ct) ⟨some (tn, ix), mn, rs⟩ ++ []) := (Hp.start_mine hM).open_
  replace hH : Hp w w (off w (blksOf [.grp (rbxO yb (.slice Ar mn cr) (.slice At mn ct) ⟨some (tn, ix), mn, rs⟩)])) (blksOf [.grp (rbxO yb (.slice Ar mn cr) (.slice At mn ct) ⟨some (tn, ix), mn, rs⟩)]) [.blk yb 58 [.bool true, .int .i64 ix, .int .i64 tn, .bool (decide (mn ≠ 0)), .slice Ar mn cr, .slice At mn ct], .row (.slice Ar mn cr) 9 1 mn (rowsL ⟨some (tn, ix), mn, rs⟩), .row (.slice At mn ct) 4 1 mn (thereL ⟨some (tn, ix), mn, rs⟩)] := hH
  refine sw_seq ?_
  refine sw_region ?_  -- R0 ref.go:137
  refine gl_st (st_boxH (cs := [.int .i64 p.idx, .int .i64 p.term, .int .i64 p.n, .int .i64 p.many, .slice Ab p.bytes.length cb]) rfl rfl rfl rfl hH ?_)
  clear hH; intro b1 w2 hH
  refine gl_st (st_allocH rfl rfl rfl (cs := [.int .i64 0, .int .i64 0, .slice none 0 0, .slice none 0 0]) (by kernel_rfl) hH ?_)
  clear hH; intro b3 w4 hH
  refine gl_ops 2 [(0, .pointer (some ⟨yb, 0, none⟩)), (3, .pointer (some ⟨b1, 0, none⟩)), (4, .pointer (some ⟨b3, 0, none⟩))] (by kernel_rfl) ?_
  refine gl_done rfl ?_
  refine sw_next ?_
  refine sw_seq ?_
  refine sw_region ?_  -- R1 ref.go:138
  refine gl_q rfl rfl rfl (rd_loadKA (m := 5) 3 (by kernel_rfl) hH rfl rfl (by kernel_rfl) [.int .i64 p.idx, .int .i64 p.term, .int .i64 p.n, .int .i64 p.many, .slice Ab p.bytes.length cb] rfl rfl) ?_
  refine gl_st (st_call rfl rfl rfl (by kernel_rfl) rfl (RMay_ct p _ _ (hb.mono hH.zin) hp) ?_)
  rintro _ w5 ⟨rfl, hF6⟩
  replace hH := hH.call hF6; clear hF6
  refine gl_ops 1 [(0, .pointer (some ⟨yb, 0, none⟩)), (3, .pointer (some ⟨b1, 0, none⟩)), (4, .pointer (some ⟨b3, 0, none⟩)), (7, .bool (mayP p))] (by kernel_rfl) ?_
  refine gl_done rfl ?_
  refine sw_next ?_
  refine sw_seq ?_
  refine sw_seq ?_
  refine sw_region ?_  -- R2 ref.go:139
  refine gl_ops 2 [(0, .pointer (some ⟨yb, 0, none⟩)), (3, .pointer (some ⟨b1, 0, none⟩)), (4, .pointer (some ⟨b3, 0, none⟩)), (17, .bool (!(mayP p)))] (by kernel_rfl) ?_
  refine gl_done rfl ?_
  refine sw_next ?_
  refine sw_cond rfl rfl (fun hc1 => ?_) (fun hc1 => ?_)
  ·
    try simp only [decide_eq_true_eq, beq_iff_eq, bne_iff_ne, ne_eq, Bool.not_eq_true', beq_eq_false_iff_ne, bne_eq_false_iff_eq, decide_eq_false_iff_not, Int.not_lt, Int.not_le] at hc1
    refine sw_seq ?_
    refine sw_region ?_  -- R3 ref.go:140
    refine gl_ops 1 [(4, .pointer (some ⟨b3, 0, none⟩)), (18, .agg #[.int .i64 0, .int .i64 0, .slice none 0 0, .slice none 0 0])] (by kernel_rfl) ?_
    refine gl_st (st_storeKA (vs := [.int .i64 0, .int .i64 0, .slice none 0 0, .slice none 0 0]) 4 rfl rfl rfl hH rfl rfl (by kernel_rfl) (by kernel_rfl) rfl (by simp) [.int .i64 0, .int .i64 0, .slice none 0 0, .slice none 0 0] rfl ?_)
    clear hH; intro w7 hH
    refine gl_ops 2 [(4, .pointer (some ⟨b3, 0, none⟩)), (5, .bool false), (6, .int .i64 1)] (by kernel_rfl) ?_
    refine gl_done rfl ?_
    refine sw_next ?_
    refine sw_ret ?_
    refine thR ?_
    refine retC3 rfl (RS.cellA hH 4 (by kernel_rfl) rfl rfl (by kernel_rfl) [.int .i64 0, .int .i64 0, .slice none 0 0, .slice none 0 0] rfl rfl) (RS.tmp rfl) (RS.tmp rfl) ?_
    replace hH := (hH.sublist (.cons_cons _ (.cons_cons _ (.cons_cons _ (List.nil_sublist _)))))
    replace hH : Hp w w7 (off w (blksOf [.grp (rbxO yb (.slice Ar mn cr) (.slice At mn ct) ⟨some (tn, ix), mn, rs⟩)])) (blksOf [.grp (rbxO yb (.slice Ar mn cr) (.slice At mn ct) ⟨some (tn, ix), mn, rs⟩)]) [.blk yb 58 [.bool true, .int .i64 ix, .int .i64 tn, .bool (decide (mn ≠ 0)), .slice Ar mn cr, .slice At mn ct], .row (.slice Ar mn cr) 9 1 mn (rowsL ⟨some (tn, ix), mn, rs⟩), .row (.slice At mn ct) 4 1 mn (thereL ⟨some (tn, ix), mn, rs⟩)] := hH
    replace hH : Hp w w7 (off w (blksOf [.grp (rbxO yb (.slice Ar mn cr) (.slice At mn ct) ⟨some (tn, ix), mn, rs⟩)])) (blksOf [.grp (rbxO yb (.slice Ar mn cr) (.slice At mn ct) ⟨some (tn, ix), mn, rs⟩)]) (rbxO yb (.slice Ar mn cr) (.slice At mn ct) ⟨some (tn, ix), mn, rs⟩ ++ []) := hH
    have hr := putI_no (S := ⟨some (tn, ix), mn, rs⟩) (p := p) nv hc1
    refine ⟨.slice Ar mn cr, .slice At mn ct, .slice none 0 0, .slice none 0 0, ?_⟩
    rw [hr]
    exact ⟨rfl, (((hH.close).nilRow 5 1).nilRow 5 1).turned⟩
  try simp only [decide_eq_false_iff_not, beq_eq_false_iff_ne, bne_eq_false_iff_eq, ne_eq, Decidable.not_not, Int.not_lt, Int.not_le, Bool.not_eq_false', beq_iff_eq, bne_iff_ne, decide_eq_true_eq] at hc1
  obtain ⟨q1, q2, q3, q4, q5, q6⟩ := mayP_true hc1
  have hmm : ((p.many.toNat : Nat) : Int) = p.many := Int.toNat_of_nonneg (by omega)
  obtain ⟨k, hk⟩ : ∃ k : Nat, p.n = k := ⟨p.n.toNat, by omega⟩
  have hkm : k < p.many.toNat := by omega
  refine sw_skip ?_
  refine sw_next ?_
  refine sw_cut (γ := Bool) (fun sm => [(0, .pointer (some ⟨yb, 0, none⟩)), (3, .pointer (some ⟨b1, 0, none⟩)), (4, .pointer (some ⟨b3, 0, none⟩)), (8, .bool sm)]) (fun sm w_ => ((sm = true ↔ p.term = tn ∧ p.idx = ix)) ∧ Hp w w_ (off w (blksOf [.grp (rbxO yb (.slice Ar mn cr) (.slice At mn ct) ⟨some (tn, ix), mn, rs⟩)])) (blksOf [.grp (rbxO yb (.slice Ar mn cr) (.slice At mn ct) ⟨some (tn, ix), mn, rs⟩)]) [.blk yb 58 [.bool true, .int .i64 ix, .int .i64 tn, .bool (decide (mn ≠ 0)), .slice Ar mn cr, .slice At mn ct], .row (.slice Ar mn cr) 9 1 mn (rowsL ⟨some (tn, ix), mn, rs⟩), .row (.slice At mn ct) 4 1 mn (thereL ⟨some (tn, ix), mn, rs⟩), .blk b1 48 [.int .i64 p.idx, .int .i64 p.term, .int .i64 p.n, .int .i64 p.many, .slice Ab p.bytes.length cb], .blk b3 24 [.int .i64 0, .int .i64 0, .slice none 0 0, .slice none 0 0]]) ?_ ?_
  ·
    refine sw_draw (by kernel_rfl) (fun w_ => Hp w w_ (off w (blksOf [.grp (rbxO yb (.slice Ar mn cr) (.slice At mn ct) ⟨some (tn, ix), mn, rs⟩)])) (blksOf [.grp (rbxO yb (.slice Ar mn cr) (.slice At mn ct) ⟨some (tn, ix), mn, rs⟩)]) [.blk yb 58 [.bool true, .int .i64 ix, .int .i64 tn, .bool (decide (mn ≠ 0)), .slice Ar mn cr, .slice At mn ct], .row (.slice Ar mn cr) 9 1 mn (rowsL ⟨some (tn, ix), mn, rs⟩), .row (.slice At mn ct) 4 1 mn (thereL ⟨some (tn, ix), mn, rs⟩), .blk b1 48 [.int .i64 p.idx, .int .i64 p.term, .int .i64 p.n, .int .i64 p.many, .slice Ab p.bytes.length cb], .blk b3 24 [.int .i64 0, .int .i64 0, .slice none 0 0, .slice none 0 0]]) ?_  -- R4 ref.go:142
    replace hH := hH.drew
    generalize { w5 with drawn := w5.drawn + 1 } = w8 at hH ⊢
    refine gd_pure 0 rfl (by kernel_rfl) (PQ.th PQ.body) (hH.sublist (.cons_cons _ (.cons_cons _ (.cons_cons _ (.cons_cons _ (.cons_cons _ (List.nil_sublist _))))))) rfl rfl (.pointer (some ⟨yb, 0, none⟩)) (by kernel_rfl) ?_
    refine gd_pure 1 rfl (by kernel_rfl) (PQ.th PQ.body) (hH.sublist (.cons_cons _ (.cons_cons _ (.cons_cons _ (.cons_cons _ (.cons_cons _ (List.nil_sublist _))))))) rfl rfl (.pointer (some ⟨yb, 0, none⟩)) (by kernel_rfl) ?_
    refine gd_pure 2 rfl (by kernel_rfl) (PQ.th PQ.body) (hH.sublist (.cons_cons _ (.cons_cons _ (.cons_cons _ (.cons_cons _ (.cons_cons _ (List.nil_sublist _))))))) rfl rfl (.pointer (some ⟨yb, 0, none⟩)) (by kernel_rfl) ?_
    refine gd_keep [(0, .pointer (some ⟨yb, 0, none⟩)), (3, .pointer (some ⟨b1, 0, none⟩)), (4, .pointer (some ⟨b3, 0, none⟩)), (21, .pointer (some ⟨yb, 0, none⟩))] (by kernel_rfl) ?_
    refine gd_q 3 rfl (by kernel_rfl) (PQ.th PQ.body) (hH.sublist (.cons_cons _ (.cons_cons _ (.cons_cons _ (.cons_cons _ (.cons_cons _ (List.nil_sublist _))))))) rfl rfl (fun w_ hS => (rd_loadK 0 (by kernel_rfl) hS rfl rfl rfl)) ?_
    refine gd_pure 4 rfl (by kernel_rfl) (PQ.th PQ.body) (hH.sublist (.cons_cons _ (.cons_cons _ (.cons_cons _ (.cons_cons _ (.cons_cons _ (List.nil_sublist _))))))) rfl rfl (.bool true) (by kernel_rfl) ?_
    refine gd_pure 5 rfl (by kernel_rfl) (PQ.th PQ.body) (hH.sublist (.cons_cons _ (.cons_cons _ (.cons_cons _ (.cons_cons _ (.cons_cons _ (List.nil_sublist _))))))) rfl rfl (.pointer (some ⟨b1, 1, none⟩)) (by kernel_rfl) ?_
    refine gd_keep [(0, .pointer (some ⟨yb, 0, none⟩)), (3, .pointer (some ⟨b1, 0, none⟩)), (4, .pointer (some ⟨b3, 0, none⟩)), (23, .bool true), (24, .pointer (some ⟨b1, 1, none⟩))] (by kernel_rfl) ?_
    refine gd_q 6 rfl (by kernel_rfl) (PQ.th PQ.body) (hH.sublist (.cons_cons _ (.cons_cons _ (.cons_cons _ (.cons_cons _ (.cons_cons _ (List.nil_sublist _))))))) rfl rfl (fun w_ hS => (rd_loadK 3 (by kernel_rfl) hS rfl rfl rfl)) ?_
    refine gd_pure 7 rfl (by kernel_rfl) (PQ.th PQ.body) (hH.sublist (.cons_cons _ (.cons_cons _ (.cons_cons _ (.cons_cons _ (.cons_cons _ (List.nil_sublist _))))))) rfl rfl (.pointer (some ⟨yb, 0, none⟩)) (by kernel_rfl) ?_
    refine gd_pure 8 rfl (by kernel_rfl) (PQ.th PQ.body) (hH.sublist (.cons_cons _ (.cons_cons _ (.cons_cons _ (.cons_cons _ (.cons_cons _ (List.nil_sublist _))))))) rfl rfl (.pointer (some ⟨yb, 0, none⟩)) (by kernel_rfl) ?_
    refine gd_keep [(0, .pointer (some ⟨yb, 0, none⟩)), (3, .pointer (some ⟨b1, 0, none⟩)), (4, .pointer (some ⟨b3, 0, none⟩)), (23, .bool true), (25, .int .i64 p.term), (27, .pointer (some ⟨yb, 0, none⟩))] (by kernel_rfl) ?_
    refine gd_pure 9 rfl (by kernel_rfl) (PQ.th PQ.body) (hH.sublist (.cons_cons _ (.cons_cons _ (.cons_cons _ (.cons_cons _ (.cons_cons _ (List.nil_sublist _))))))) rfl rfl (.pointer (some ⟨yb, 2, none⟩)) (by kernel_rfl) ?_
    refine gd_q 10 rfl (by kernel_rfl) (PQ.th PQ.body) (hH.sublist (.cons_cons _ (.cons_cons _ (.cons_cons _ (.cons_cons _ (.cons_cons _ (List.nil_sublist _))))))) rfl rfl (fun w_ hS => (rd_loadK 0 (by kernel_rfl) hS rfl rfl rfl)) ?_
    refine gd_pure 11 rfl (by kernel_rfl) (PQ.th PQ.body) (hH.sublist (.cons_cons _ (.cons_cons _ (.cons_cons _ (.cons_cons _ (.cons_cons _ (List.nil_sublist _))))))) rfl rfl (.bool ((p.term : Int) == (tn : Int))) (by kernel_rfl) ?_
    refine gd_keep [(0, .pointer (some ⟨yb, 0, none⟩)), (3, .pointer (some ⟨b1, 0, none⟩)), (4, .pointer (some ⟨b3, 0, none⟩)), (23, .bool true), (30, .bool ((p.term : Int) == (tn : Int)))] (by kernel_rfl) ?_
    refine gd_pure 12 rfl (by kernel_rfl) (PQ.th PQ.body) (hH.sublist (.cons_cons _ (.cons_cons _ (.cons_cons _ (.cons_cons _ (.cons_cons _ (List.nil_sublist _))))))) rfl rfl (.bool ((p.term : Int) == (tn : Int))) (by kernel_rfl) ?_
    refine gd_pure 13 rfl (by kernel_rfl) (PQ.th PQ.body) (hH.sublist (.cons_cons _ (.cons_cons _ (.cons_cons _ (.cons_cons _ (.cons_cons _ (List.nil_sublist _))))))) rfl rfl (.bool ((p.term : Int) == (tn : Int))) (by kernel_rfl) ?_
    refine gd_split 32 (b := (p.term : Int) == (tn : Int)) rfl (fun hg2 => ?_) (fun hg2 => ?_)
    ·
      refine gd_cv 30 (.bool true) (by rw [hg2]) rfl ?_
      refine gd_cv 31 (.bool true) (by rw [hg2]) rfl ?_
      try simp only [decide_eq_true_eq, beq_iff_eq, bne_iff_ne, ne_eq, Bool.not_eq_true', beq_eq_false_iff_ne, bne_eq_false_iff_eq, decide_eq_false_iff_not, Int.not_lt, Int.not_le] at hg2
      refine gd_pure 14 rfl (by kernel_rfl) (PQ.th PQ.body) (hH.sublist (.cons_cons _ (.cons_cons _ (.cons_cons _ (.cons_cons _ (.cons_cons _ (List.nil_sublist _))))))) rfl rfl (.pointer (some ⟨b1, 0, none⟩)) (by kernel_rfl) ?_
      refine gd_keep [(0, .pointer (some ⟨yb, 0, none⟩)), (3, .pointer (some ⟨b1, 0, none⟩)), (4, .pointer (some ⟨b3, 0, none⟩)), (32, .bool true), (33, .pointer (some ⟨b1, 0, none⟩))] (by kernel_rfl) ?_
      refine gd_q 15 rfl (by kernel_rfl) (PQ.th PQ.body) (hH.sublist (.cons_cons _ (.cons_cons _ (.cons_cons _ (.cons_cons _ (.cons_cons _ (List.nil_sublist _))))))) rfl rfl (fun w_ hS => (rd_loadK 3 (by kernel_rfl) hS rfl rfl rfl)) ?_
      refine gd_pure 16 rfl (by kernel_rfl) (PQ.th PQ.body) (hH.sublist (.cons_cons _ (.cons_cons _ (.cons_cons _ (.cons_cons _ (.cons_cons _ (List.nil_sublist _))))))) rfl rfl (.pointer (some ⟨yb, 0, none⟩)) (by kernel_rfl) ?_
      refine gd_pure 17 rfl (by kernel_rfl) (PQ.th PQ.body) (hH.sublist (.cons_cons _ (.cons_cons _ (.cons_cons _ (.cons_cons _ (.cons_cons _ (List.nil_sublist _))))))) rfl rfl (.pointer (some ⟨yb, 0, none⟩)) (by kernel_rfl) ?_
      refine gd_keep [(0, .pointer (some ⟨yb, 0, none⟩)), (3, .pointer (some ⟨b1, 0, none⟩)), (4, .pointer (some ⟨b3, 0, none⟩)), (32, .bool true), (34, .int .i64 p.idx), (36, .pointer (some ⟨yb, 0, none⟩))] (by kernel_rfl) ?_
      refine gd_pure 18 rfl (by kernel_rfl) (PQ.th PQ.body) (hH.sublist (.cons_cons _ (.cons_cons _ (.cons_cons _ (.cons_cons _ (.cons_cons _ (List.nil_sublist _))))))) rfl rfl (.pointer (some ⟨yb, 1, none⟩)) (by kernel_rfl) ?_
      refine gd_q 19 rfl (by kernel_rfl) (PQ.th PQ.body) (hH.sublist (.cons_cons _ (.cons_cons _ (.cons_cons _ (.cons_cons _ (.cons_cons _ (List.nil_sublist _))))))) rfl rfl (fun w_ hS => (rd_loadK 0 (by kernel_rfl) hS rfl rfl rfl)) ?_
      refine gd_pure 20 rfl (by kernel_rfl) (PQ.th PQ.body) (hH.sublist (.cons_cons _ (.cons_cons _ (.cons_cons _ (.cons_cons _ (.cons_cons _ (List.nil_sublist _))))))) rfl rfl (.bool ((p.idx : Int) == (ix : Int))) (by kernel_rfl) ?_
      refine gd_keep [(0, .pointer (some ⟨yb, 0, none⟩)), (3, .pointer (some ⟨b1, 0, none⟩)), (4, .pointer (some ⟨b3, 0, none⟩)), (32, .bool true), (39, .bool ((p.idx : Int) == (ix : Int)))] (by kernel_rfl) ?_
      refine gd_pure 21 rfl (by kernel_rfl) (PQ.th PQ.body) (hH.sublist (.cons_cons _ (.cons_cons _ (.cons_cons _ (.cons_cons _ (.cons_cons _ (List.nil_sublist _))))))) rfl rfl (.bool ((p.idx : Int) == (ix : Int))) (by kernel_rfl) ?_
      refine gd_pure 22 rfl (by kernel_rfl) (PQ.th PQ.body) (hH.sublist (.cons_cons _ (.cons_cons _ (.cons_cons _ (.cons_cons _ (.cons_cons _ (List.nil_sublist _))))))) rfl rfl (.bool ((p.idx : Int) == (ix : Int))) (by kernel_rfl) ?_
      refine gd_done (by kernel_rfl) ?_
      refine at_sub [(0, .pointer (some ⟨yb, 0, none⟩)), (3, .pointer (some ⟨b1, 0, none⟩)), (4, .pointer (some ⟨b3, 0, none⟩)), (8, .bool ((p.idx : Int) == (ix : Int)))] (Sub.of_eq (by kernel_rfl)) ?_
      refine cut_end ((p.idx : Int) == (ix : Int)) (Sub.of_eq (by kernel_rfl)) ?_
      first | exact ⟨by rw [beq_iff_eq]; omega, hH⟩ | exact ⟨by rw [decide_eq_true_eq]; omega, hH⟩ | exact ⟨⟨fun hh => by omega, fun hh => rfl⟩, hH⟩ | exact ⟨⟨fun hh => Bool.noConfusion hh, fun hh => by omega⟩, hH⟩
    ·
      refine gd_cv 30 (.bool false) (by rw [hg2]) rfl ?_
      refine gd_cv 31 (.bool false) (by rw [hg2]) rfl ?_
      try simp only [decide_eq_false_iff_not, beq_eq_false_iff_ne, bne_eq_false_iff_eq, ne_eq, Decidable.not_not, Int.not_lt, Int.not_le, Bool.not_eq_false', beq_iff_eq, bne_iff_ne, decide_eq_true_eq] at hg2
      refine gd_not 14 rfl (by kernel_rfl) (PQ.th PQ.body) (hH.sublist (.cons_cons _ (.cons_cons _ (.cons_cons _ (.cons_cons _ (.cons_cons _ (List.nil_sublist _))))))) rfl rfl ?_
      refine gd_keep [(0, .pointer (some ⟨yb, 0, none⟩)), (3, .pointer (some ⟨b1, 0, none⟩)), (4, .pointer (some ⟨b3, 0, none⟩)), (32, .bool false), (33, undef)] (by kernel_rfl) ?_
      refine gd_not 15 rfl (by kernel_rfl) (PQ.th PQ.body) (hH.sublist (.cons_cons _ (.cons_cons _ (.cons_cons _ (.cons_cons _ (.cons_cons _ (List.nil_sublist _))))))) rfl rfl ?_
      refine gd_not 16 rfl (by kernel_rfl) (PQ.th PQ.body) (hH.sublist (.cons_cons _ (.cons_cons _ (.cons_cons _ (.cons_cons _ (.cons_cons _ (List.nil_sublist _))))))) rfl rfl ?_
      refine gd_not 17 rfl (by kernel_rfl) (PQ.th PQ.body) (hH.sublist (.cons_cons _ (.cons_cons _ (.cons_cons _ (.cons_cons _ (.cons_cons _ (List.nil_sublist _))))))) rfl rfl ?_
      refine gd_keep [(0, .pointer (some ⟨yb, 0, none⟩)), (3, .pointer (some ⟨b1, 0, none⟩)), (4, .pointer (some ⟨b3, 0, none⟩)), (32, .bool false), (34, undef), (36, undef)] (by kernel_rfl) ?_
      refine gd_not 18 rfl (by kernel_rfl) (PQ.th PQ.body) (hH.sublist (.cons_cons _ (.cons_cons _ (.cons_cons _ (.cons_cons _ (.cons_cons _ (List.nil_sublist _))))))) rfl rfl ?_
      refine gd_not 19 rfl (by kernel_rfl) (PQ.th PQ.body) (hH.sublist (.cons_cons _ (.cons_cons _ (.cons_cons _ (.cons_cons _ (.cons_cons _ (List.nil_sublist _))))))) rfl rfl ?_
      refine gd_not 20 rfl (by kernel_rfl) (PQ.th PQ.body) (hH.sublist (.cons_cons _ (.cons_cons _ (.cons_cons _ (.cons_cons _ (.cons_cons _ (List.nil_sublist _))))))) rfl rfl ?_
      refine gd_keep [(0, .pointer (some ⟨yb, 0, none⟩)), (3, .pointer (some ⟨b1, 0, none⟩)), (4, .pointer (some ⟨b3, 0, none⟩)), (32, .bool false), (39, undef)] (by kernel_rfl) ?_
      refine gd_pure 21 rfl (by kernel_rfl) (PQ.th PQ.body) (hH.sublist (.cons_cons _ (.cons_cons _ (.cons_cons _ (.cons_cons _ (.cons_cons _ (List.nil_sublist _))))))) rfl rfl (.bool false) (by kernel_rfl) ?_
      refine gd_pure 22 rfl (by kernel_rfl) (PQ.th PQ.body) (hH.sublist (.cons_cons _ (.cons_cons _ (.cons_cons _ (.cons_cons _ (.cons_cons _ (List.nil_sublist _))))))) rfl rfl (.bool false) (by kernel_rfl) ?_
      refine gd_done (by kernel_rfl) ?_
      refine at_sub [(0, .pointer (some ⟨yb, 0, none⟩)), (3, .pointer (some ⟨b1, 0, none⟩)), (4, .pointer (some ⟨b3, 0, none⟩)), (8, .bool false)] (Sub.of_eq (by kernel_rfl)) ?_
      refine cut_end (false) (Sub.of_eq (by kernel_rfl)) ?_
      first | exact ⟨by rw [beq_iff_eq]; omega, hH⟩ | exact ⟨by rw [decide_eq_true_eq]; omega, hH⟩ | exact ⟨⟨fun hh => by omega, fun hh => rfl⟩, hH⟩ | exact ⟨⟨fun hh => Bool.noConfusion hh, fun hh => by omega⟩, hH⟩
  clear hH
  rintro sm w9 ⟨hsm, hH⟩
  refine sw_keep [(0, .pointer (some ⟨yb, 0, none⟩)), (3, .pointer (some ⟨b1, 0, none⟩)), (4, .pointer (some ⟨b3, 0, none⟩)), (8, .bool sm)] (by kernel_rfl) ?_
  refine sw_cut (γ := Bool) (fun od => [(0, .pointer (some ⟨yb, 0, none⟩)), (3, .pointer (some ⟨b1, 0, none⟩)), (4, .pointer (some ⟨b3, 0, none⟩)), (8, .bool sm), (9, .bool od)]) (fun od w_ => ((od = true ↔ p.term < tn ∨ p.term = tn ∧ p.idx < ix)) ∧ Hp w w_ (off w (blksOf [.grp (rbxO yb (.slice Ar mn cr) (.slice At mn ct) ⟨some (tn, ix), mn, rs⟩)])) (blksOf [.grp (rbxO yb (.slice Ar mn cr) (.slice At mn ct) ⟨some (tn, ix), mn, rs⟩)]) [.blk yb 58 [.bool true, .int .i64 ix, .int .i64 tn, .bool (decide (mn ≠ 0)), .slice Ar mn cr, .slice At mn ct], .row (.slice Ar mn cr) 9 1 mn (rowsL ⟨some (tn, ix), mn, rs⟩), .row (.slice At mn ct) 4 1 mn (thereL ⟨some (tn, ix), mn, rs⟩), .blk b1 48 [.int .i64 p.idx, .int .i64 p.term, .int .i64 p.n, .int .i64 p.many, .slice Ab p.bytes.length cb], .blk b3 24 [.int .i64 0, .int .i64 0, .slice none 0 0, .slice none 0 0]]) ?_ ?_
  ·
    refine sw_draw (by kernel_rfl) (fun w_ => Hp w w_ (off w (blksOf [.grp (rbxO yb (.slice Ar mn cr) (.slice At mn ct) ⟨some (tn, ix), mn, rs⟩)])) (blksOf [.grp (rbxO yb (.slice Ar mn cr) (.slice At mn ct) ⟨some (tn, ix), mn, rs⟩)]) [.blk yb 58 [.bool true, .int .i64 ix, .int .i64 tn, .bool (decide (mn ≠ 0)), .slice Ar mn cr, .slice At mn ct], .row (.slice Ar mn cr) 9 1 mn (rowsL ⟨some (tn, ix), mn, rs⟩), .row (.slice At mn ct) 4 1 mn (thereL ⟨some (tn, ix), mn, rs⟩), .blk b1 48 [.int .i64 p.idx, .int .i64 p.term, .int .i64 p.n, .int .i64 p.many, .slice Ab p.bytes.length cb], .blk b3 24 [.int .i64 0, .int .i64 0, .slice none 0 0, .slice none 0 0]]) ?_  -- R5 ref.go:143
    replace hH := hH.drew
    generalize { w9 with drawn := w9.drawn + 1 } = w10 at hH ⊢
    refine gd_pure 0 rfl (by kernel_rfl) (PQ.th PQ.body) (hH.sublist (.cons_cons _ (.cons_cons _ (.cons_cons _ (.cons_cons _ (.cons_cons _ (List.nil_sublist _))))))) rfl rfl (.pointer (some ⟨yb, 0, none⟩)) (by kernel_rfl) ?_
    refine gd_pure 1 rfl (by kernel_rfl) (PQ.th PQ.body) (hH.sublist (.cons_cons _ (.cons_cons _ (.cons_cons _ (.cons_cons _ (.cons_cons _ (List.nil_sublist _))))))) rfl rfl (.pointer (some ⟨yb, 0, none⟩)) (by kernel_rfl) ?_
    refine gd_pure 2 rfl (by kernel_rfl) (PQ.th PQ.body) (hH.sublist (.cons_cons _ (.cons_cons _ (.cons_cons _ (.cons_cons _ (.cons_cons _ (List.nil_sublist _))))))) rfl rfl (.pointer (some ⟨yb, 0, none⟩)) (by kernel_rfl) ?_
    refine gd_keep [(0, .pointer (some ⟨yb, 0, none⟩)), (3, .pointer (some ⟨b1, 0, none⟩)), (4, .pointer (some ⟨b3, 0, none⟩)), (8, .bool sm), (43, .pointer (some ⟨yb, 0, none⟩))] (by kernel_rfl) ?_
    refine gd_q 3 rfl (by kernel_rfl) (PQ.th PQ.body) (hH.sublist (.cons_cons _ (.cons_cons _ (.cons_cons _ (.cons_cons _ (.cons_cons _ (List.nil_sublist _))))))) rfl rfl (fun w_ hS => (rd_loadK 0 (by kernel_rfl) hS rfl rfl rfl)) ?_
    refine gd_pure 4 rfl (by kernel_rfl) (PQ.th PQ.body) (hH.sublist (.cons_cons _ (.cons_cons _ (.cons_cons _ (.cons_cons _ (.cons_cons _ (List.nil_sublist _))))))) rfl rfl (.bool true) (by kernel_rfl) ?_
    refine gd_pure 5 rfl (by kernel_rfl) (PQ.th PQ.body) (hH.sublist (.cons_cons _ (.cons_cons _ (.cons_cons _ (.cons_cons _ (.cons_cons _ (List.nil_sublist _))))))) rfl rfl (.pointer (some ⟨b1, 1, none⟩)) (by kernel_rfl) ?_
    refine gd_keep [(0, .pointer (some ⟨yb, 0, none⟩)), (3, .pointer (some ⟨b1, 0, none⟩)), (4, .pointer (some ⟨b3, 0, none⟩)), (8, .bool sm), (45, .bool true), (46, .pointer (some ⟨b1, 1, none⟩))] (by kernel_rfl) ?_
    refine gd_q 6 rfl (by kernel_rfl) (PQ.th PQ.body) (hH.sublist (.cons_cons _ (.cons_cons _ (.cons_cons _ (.cons_cons _ (.cons_cons _ (List.nil_sublist _))))))) rfl rfl (fun w_ hS => (rd_loadK 3 (by kernel_rfl) hS rfl rfl rfl)) ?_
    refine gd_pure 7 rfl (by kernel_rfl) (PQ.th PQ.body) (hH.sublist (.cons_cons _ (.cons_cons _ (.cons_cons _ (.cons_cons _ (.cons_cons _ (List.nil_sublist _))))))) rfl rfl (.pointer (some ⟨yb, 0, none⟩)) (by kernel_rfl) ?_
    refine gd_pure 8 rfl (by kernel_rfl) (PQ.th PQ.body) (hH.sublist (.cons_cons _ (.cons_cons _ (.cons_cons _ (.cons_cons _ (.cons_cons _ (List.nil_sublist _))))))) rfl rfl (.pointer (some ⟨yb, 0, none⟩)) (by kernel_rfl) ?_
    refine gd_keep [(0, .pointer (some ⟨yb, 0, none⟩)), (3, .pointer (some ⟨b1, 0, none⟩)), (4, .pointer (some ⟨b3, 0, none⟩)), (8, .bool sm), (45, .bool true), (47, .int .i64 p.term), (49, .pointer (some ⟨yb, 0, none⟩))] (by kernel_rfl) ?_
    refine gd_pure 9 rfl (by kernel_rfl) (PQ.th PQ.body) (hH.sublist (.cons_cons _ (.cons_cons _ (.cons_cons _ (.cons_cons _ (.cons_cons _ (List.nil_sublist _))))))) rfl rfl (.pointer (some ⟨yb, 2, none⟩)) (by kernel_rfl) ?_
    refine gd_q 10 rfl (by kernel_rfl) (PQ.th PQ.body) (hH.sublist (.cons_cons _ (.cons_cons _ (.cons_cons _ (.cons_cons _ (.cons_cons _ (List.nil_sublist _))))))) rfl rfl (fun w_ hS => (rd_loadK 0 (by kernel_rfl) hS rfl rfl rfl)) ?_
    refine gd_pure 11 rfl (by kernel_rfl) (PQ.th PQ.body) (hH.sublist (.cons_cons _ (.cons_cons _ (.cons_cons _ (.cons_cons _ (.cons_cons _ (List.nil_sublist _))))))) rfl rfl (.bool (decide ((p.term : Int) < (tn : Int)))) (by kernel_rfl) ?_
    refine gd_keep [(0, .pointer (some ⟨yb, 0, none⟩)), (3, .pointer (some ⟨b1, 0, none⟩)), (4, .pointer (some ⟨b3, 0, none⟩)), (8, .bool sm), (45, .bool true), (52, .bool (decide ((p.term : Int) < (tn : Int))))] (by kernel_rfl) ?_
    refine gd_pure 12 rfl (by kernel_rfl) (PQ.th PQ.body) (hH.sublist (.cons_cons _ (.cons_cons _ (.cons_cons _ (.cons_cons _ (.cons_cons _ (List.nil_sublist _))))))) rfl rfl (.bool (decide ((p.term : Int) < (tn : Int)))) (by kernel_rfl) ?_
    refine gd_split 53 (b := decide ((p.term : Int) < (tn : Int))) rfl (fun hg3 => ?_) (fun hg3 => ?_)
    ·
      refine gd_cv 52 (.bool true) (by rw [hg3]) rfl ?_
      try simp only [decide_eq_true_eq, beq_iff_eq, bne_iff_ne, ne_eq, Bool.not_eq_true', beq_eq_false_iff_ne, bne_eq_false_iff_eq, decide_eq_false_iff_not, Int.not_lt, Int.not_le] at hg3
      refine gd_not 13 rfl (by kernel_rfl) (PQ.th PQ.body) (hH.sublist (.cons_cons _ (.cons_cons _ (.cons_cons _ (.cons_cons _ (.cons_cons _ (List.nil_sublist _))))))) rfl rfl ?_
      refine gd_not 14 rfl (by kernel_rfl) (PQ.th PQ.body) (hH.sublist (.cons_cons _ (.cons_cons _ (.cons_cons _ (.cons_cons _ (.cons_cons _ (List.nil_sublist _))))))) rfl rfl ?_
      refine gd_keep [(0, .pointer (some ⟨yb, 0, none⟩)), (3, .pointer (some ⟨b1, 0, none⟩)), (4, .pointer (some ⟨b3, 0, none⟩)), (8, .bool sm), (45, .bool true), (53, .bool true), (55, undef)] (by kernel_rfl) ?_
      refine gd_not 15 rfl (by kernel_rfl) (PQ.th PQ.body) (hH.sublist (.cons_cons _ (.cons_cons _ (.cons_cons _ (.cons_cons _ (.cons_cons _ (List.nil_sublist _))))))) rfl rfl ?_
      refine gd_not 16 rfl (by kernel_rfl) (PQ.th PQ.body) (hH.sublist (.cons_cons _ (.cons_cons _ (.cons_cons _ (.cons_cons _ (.cons_cons _ (List.nil_sublist _))))))) rfl rfl ?_
      refine gd_not 17 rfl (by kernel_rfl) (PQ.th PQ.body) (hH.sublist (.cons_cons _ (.cons_cons _ (.cons_cons _ (.cons_cons _ (.cons_cons _ (List.nil_sublist _))))))) rfl rfl ?_
      refine gd_keep [(0, .pointer (some ⟨yb, 0, none⟩)), (3, .pointer (some ⟨b1, 0, none⟩)), (4, .pointer (some ⟨b3, 0, none⟩)), (8, .bool sm), (45, .bool true), (53, .bool true), (55, undef), (58, undef)] (by kernel_rfl) ?_
      refine gd_not 18 rfl (by kernel_rfl) (PQ.th PQ.body) (hH.sublist (.cons_cons _ (.cons_cons _ (.cons_cons _ (.cons_cons _ (.cons_cons _ (List.nil_sublist _))))))) rfl rfl ?_
      refine gd_not 19 rfl (by kernel_rfl) (PQ.th PQ.body) (hH.sublist (.cons_cons _ (.cons_cons _ (.cons_cons _ (.cons_cons _ (.cons_cons _ (List.nil_sublist _))))))) rfl rfl ?_
      refine gd_not 20 rfl (by kernel_rfl) (PQ.th PQ.body) (hH.sublist (.cons_cons _ (.cons_cons _ (.cons_cons _ (.cons_cons _ (.cons_cons _ (List.nil_sublist _))))))) rfl rfl ?_
      refine gd_keep [(0, .pointer (some ⟨yb, 0, none⟩)), (3, .pointer (some ⟨b1, 0, none⟩)), (4, .pointer (some ⟨b3, 0, none⟩)), (8, .bool sm), (45, .bool true), (53, .bool true), (61, undef)] (by kernel_rfl) ?_
      refine gd_not 21 rfl (by kernel_rfl) (PQ.th PQ.body) (hH.sublist (.cons_cons _ (.cons_cons _ (.cons_cons _ (.cons_cons _ (.cons_cons _ (List.nil_sublist _))))))) rfl rfl ?_
      refine gd_not 22 rfl (by kernel_rfl) (PQ.th PQ.body) (hH.sublist (.cons_cons _ (.cons_cons _ (.cons_cons _ (.cons_cons _ (.cons_cons _ (List.nil_sublist _))))))) rfl rfl ?_
      refine gd_not 23 rfl (by kernel_rfl) (PQ.th PQ.body) (hH.sublist (.cons_cons _ (.cons_cons _ (.cons_cons _ (.cons_cons _ (.cons_cons _ (List.nil_sublist _))))))) rfl rfl ?_
      refine gd_keep [(0, .pointer (some ⟨yb, 0, none⟩)), (3, .pointer (some ⟨b1, 0, none⟩)), (4, .pointer (some ⟨b3, 0, none⟩)), (8, .bool sm), (45, .bool true), (53, .bool true), (61, undef), (63, undef), (64, undef)] (by kernel_rfl) ?_
      refine gd_not 24 rfl (by kernel_rfl) (PQ.th PQ.body) (hH.sublist (.cons_cons _ (.cons_cons _ (.cons_cons _ (.cons_cons _ (.cons_cons _ (List.nil_sublist _))))))) rfl rfl ?_
      refine gd_not 25 rfl (by kernel_rfl) (PQ.th PQ.body) (hH.sublist (.cons_cons _ (.cons_cons _ (.cons_cons _ (.cons_cons _ (.cons_cons _ (List.nil_sublist _))))))) rfl rfl ?_
      refine gd_not 26 rfl (by kernel_rfl) (PQ.th PQ.body) (hH.sublist (.cons_cons _ (.cons_cons _ (.cons_cons _ (.cons_cons _ (.cons_cons _ (List.nil_sublist _))))))) rfl rfl ?_
      refine gd_keep [(0, .pointer (some ⟨yb, 0, none⟩)), (3, .pointer (some ⟨b1, 0, none⟩)), (4, .pointer (some ⟨b3, 0, none⟩)), (8, .bool sm), (45, .bool true), (53, .bool true), (61, undef), (63, undef), (67, undef)] (by kernel_rfl) ?_
      refine gd_not 27 rfl (by kernel_rfl) (PQ.th PQ.body) (hH.sublist (.cons_cons _ (.cons_cons _ (.cons_cons _ (.cons_cons _ (.cons_cons _ (List.nil_sublist _))))))) rfl rfl ?_
      refine gd_not 28 rfl (by kernel_rfl) (PQ.th PQ.body) (hH.sublist (.cons_cons _ (.cons_cons _ (.cons_cons _ (.cons_cons _ (.cons_cons _ (List.nil_sublist _))))))) rfl rfl ?_
      refine gd_pure 29 rfl (by kernel_rfl) (PQ.th PQ.body) (hH.sublist (.cons_cons _ (.cons_cons _ (.cons_cons _ (.cons_cons _ (.cons_cons _ (List.nil_sublist _))))))) rfl rfl (.bool true) (by kernel_rfl) ?_
      refine gd_keep [(0, .pointer (some ⟨yb, 0, none⟩)), (3, .pointer (some ⟨b1, 0, none⟩)), (4, .pointer (some ⟨b3, 0, none⟩)), (8, .bool sm), (45, .bool true), (70, .bool true)] (by kernel_rfl) ?_
      refine gd_pure 30 rfl (by kernel_rfl) (PQ.th PQ.body) (hH.sublist (.cons_cons _ (.cons_cons _ (.cons_cons _ (.cons_cons _ (.cons_cons _ (List.nil_sublist _))))))) rfl rfl (.bool true) (by kernel_rfl) ?_
      refine gd_pure 31 rfl (by kernel_rfl) (PQ.th PQ.body) (hH.sublist (.cons_cons _ (.cons_cons _ (.cons_cons _ (.cons_cons _ (.cons_cons _ (List.nil_sublist _))))))) rfl rfl (.bool true) (by kernel_rfl) ?_
      refine gd_done (by kernel_rfl) ?_
      refine at_sub [(0, .pointer (some ⟨yb, 0, none⟩)), (3, .pointer (some ⟨b1, 0, none⟩)), (4, .pointer (some ⟨b3, 0, none⟩)), (8, .bool sm), (9, .bool true)] (Sub.of_eq (by kernel_rfl)) ?_
      refine cut_end (true) (Sub.of_eq (by kernel_rfl)) ?_
      first | exact ⟨by rw [beq_iff_eq]; omega, hH⟩ | exact ⟨by rw [decide_eq_true_eq]; omega, hH⟩ | exact ⟨⟨fun hh => by omega, fun hh => rfl⟩, hH⟩ | exact ⟨⟨fun hh => Bool.noConfusion hh, fun hh => by omega⟩, hH⟩
    ·
      refine gd_cv 52 (.bool false) (by rw [hg3]) rfl ?_
      try simp only [decide_eq_false_iff_not, beq_eq_false_iff_ne, bne_eq_false_iff_eq, ne_eq, Decidable.not_not, Int.not_lt, Int.not_le, Bool.not_eq_false', beq_iff_eq, bne_iff_ne, decide_eq_true_eq] at hg3
      refine gd_pure 13 rfl (by kernel_rfl) (PQ.th PQ.body) (hH.sublist (.cons_cons _ (.cons_cons _ (.cons_cons _ (.cons_cons _ (.cons_cons _ (List.nil_sublist _))))))) rfl rfl (.pointer (some ⟨b1, 1, none⟩)) (by kernel_rfl) ?_
      refine gd_q 14 rfl (by kernel_rfl) (PQ.th PQ.body) (hH.sublist (.cons_cons _ (.cons_cons _ (.cons_cons _ (.cons_cons _ (.cons_cons _ (List.nil_sublist _))))))) rfl rfl (fun w_ hS => (rd_loadK 3 (by kernel_rfl) hS rfl rfl rfl)) ?_
      refine gd_keep [(0, .pointer (some ⟨yb, 0, none⟩)), (3, .pointer (some ⟨b1, 0, none⟩)), (4, .pointer (some ⟨b3, 0, none⟩)), (8, .bool sm), (45, .bool true), (53, .bool false), (55, .int .i64 p.term)] (by kernel_rfl) ?_
      refine gd_pure 15 rfl (by kernel_rfl) (PQ.th PQ.body) (hH.sublist (.cons_cons _ (.cons_cons _ (.cons_cons _ (.cons_cons _ (.cons_cons _ (List.nil_sublist _))))))) rfl rfl (.pointer (some ⟨yb, 0, none⟩)) (by kernel_rfl) ?_
      refine gd_pure 16 rfl (by kernel_rfl) (PQ.th PQ.body) (hH.sublist (.cons_cons _ (.cons_cons _ (.cons_cons _ (.cons_cons _ (.cons_cons _ (List.nil_sublist _))))))) rfl rfl (.pointer (some ⟨yb, 0, none⟩)) (by kernel_rfl) ?_
      refine gd_pure 17 rfl (by kernel_rfl) (PQ.th PQ.body) (hH.sublist (.cons_cons _ (.cons_cons _ (.cons_cons _ (.cons_cons _ (.cons_cons _ (List.nil_sublist _))))))) rfl rfl (.pointer (some ⟨yb, 2, none⟩)) (by kernel_rfl) ?_
      refine gd_keep [(0, .pointer (some ⟨yb, 0, none⟩)), (3, .pointer (some ⟨b1, 0, none⟩)), (4, .pointer (some ⟨b3, 0, none⟩)), (8, .bool sm), (45, .bool true), (53, .bool false), (55, .int .i64 p.term), (58, .pointer (some ⟨yb, 2, none⟩))] (by kernel_rfl) ?_
      refine gd_q 18 rfl (by kernel_rfl) (PQ.th PQ.body) (hH.sublist (.cons_cons _ (.cons_cons _ (.cons_cons _ (.cons_cons _ (.cons_cons _ (List.nil_sublist _))))))) rfl rfl (fun w_ hS => (rd_loadK 0 (by kernel_rfl) hS rfl rfl rfl)) ?_
      refine gd_pure 19 rfl (by kernel_rfl) (PQ.th PQ.body) (hH.sublist (.cons_cons _ (.cons_cons _ (.cons_cons _ (.cons_cons _ (.cons_cons _ (List.nil_sublist _))))))) rfl rfl (.bool ((p.term : Int) == (tn : Int))) (by kernel_rfl) ?_
      refine gd_pure 20 rfl (by kernel_rfl) (PQ.th PQ.body) (hH.sublist (.cons_cons _ (.cons_cons _ (.cons_cons _ (.cons_cons _ (.cons_cons _ (List.nil_sublist _))))))) rfl rfl (.bool ((p.term : Int) == (tn : Int))) (by kernel_rfl) ?_
      refine gd_keep [(0, .pointer (some ⟨yb, 0, none⟩)), (3, .pointer (some ⟨b1, 0, none⟩)), (4, .pointer (some ⟨b3, 0, none⟩)), (8, .bool sm), (45, .bool true), (53, .bool false), (61, .bool ((p.term : Int) == (tn : Int)))] (by kernel_rfl) ?_
      refine gd_split 61 (b := (p.term : Int) == (tn : Int)) rfl (fun hg4 => ?_) (fun hg4 => ?_)
      ·
        try simp only [decide_eq_true_eq, beq_iff_eq, bne_iff_ne, ne_eq, Bool.not_eq_true', beq_eq_false_iff_ne, bne_eq_false_iff_eq, decide_eq_false_iff_not, Int.not_lt, Int.not_le] at hg4
        refine gd_pure 21 rfl (by kernel_rfl) (PQ.th PQ.body) (hH.sublist (.cons_cons _ (.cons_cons _ (.cons_cons _ (.cons_cons _ (.cons_cons _ (List.nil_sublist _))))))) rfl rfl (.pointer (some ⟨b1, 0, none⟩)) (by kernel_rfl) ?_
        refine gd_q 22 rfl (by kernel_rfl) (PQ.th PQ.body) (hH.sublist (.cons_cons _ (.cons_cons _ (.cons_cons _ (.cons_cons _ (.cons_cons _ (List.nil_sublist _))))))) rfl rfl (fun w_ hS => (rd_loadK 3 (by kernel_rfl) hS rfl rfl rfl)) ?_
        refine gd_pure 23 rfl (by kernel_rfl) (PQ.th PQ.body) (hH.sublist (.cons_cons _ (.cons_cons _ (.cons_cons _ (.cons_cons _ (.cons_cons _ (List.nil_sublist _))))))) rfl rfl (.pointer (some ⟨yb, 0, none⟩)) (by kernel_rfl) ?_
        refine gd_keep [(0, .pointer (some ⟨yb, 0, none⟩)), (3, .pointer (some ⟨b1, 0, none⟩)), (4, .pointer (some ⟨b3, 0, none⟩)), (8, .bool sm), (45, .bool true), (53, .bool false), (61, .bool true), (63, .int .i64 p.idx), (64, .pointer (some ⟨yb, 0, none⟩))] (by kernel_rfl) ?_
        refine gd_pure 24 rfl (by kernel_rfl) (PQ.th PQ.body) (hH.sublist (.cons_cons _ (.cons_cons _ (.cons_cons _ (.cons_cons _ (.cons_cons _ (List.nil_sublist _))))))) rfl rfl (.pointer (some ⟨yb, 0, none⟩)) (by kernel_rfl) ?_
        refine gd_pure 25 rfl (by kernel_rfl) (PQ.th PQ.body) (hH.sublist (.cons_cons _ (.cons_cons _ (.cons_cons _ (.cons_cons _ (.cons_cons _ (List.nil_sublist _))))))) rfl rfl (.pointer (some ⟨yb, 1, none⟩)) (by kernel_rfl) ?_
        refine gd_q 26 rfl (by kernel_rfl) (PQ.th PQ.body) (hH.sublist (.cons_cons _ (.cons_cons _ (.cons_cons _ (.cons_cons _ (.cons_cons _ (List.nil_sublist _))))))) rfl rfl (fun w_ hS => (rd_loadK 0 (by kernel_rfl) hS rfl rfl rfl)) ?_
        refine gd_keep [(0, .pointer (some ⟨yb, 0, none⟩)), (3, .pointer (some ⟨b1, 0, none⟩)), (4, .pointer (some ⟨b3, 0, none⟩)), (8, .bool sm), (45, .bool true), (53, .bool false), (61, .bool true), (63, .int .i64 p.idx), (67, .int .i64 ix)] (by kernel_rfl) ?_
        refine gd_pure 27 rfl (by kernel_rfl) (PQ.th PQ.body) (hH.sublist (.cons_cons _ (.cons_cons _ (.cons_cons _ (.cons_cons _ (.cons_cons _ (List.nil_sublist _))))))) rfl rfl (.bool (decide ((p.idx : Int) < (ix : Int)))) (by kernel_rfl) ?_
        refine gd_pure 28 rfl (by kernel_rfl) (PQ.th PQ.body) (hH.sublist (.cons_cons _ (.cons_cons _ (.cons_cons _ (.cons_cons _ (.cons_cons _ (List.nil_sublist _))))))) rfl rfl (.bool (decide ((p.idx : Int) < (ix : Int)))) (by kernel_rfl) ?_
        refine gd_pure 29 rfl (by kernel_rfl) (PQ.th PQ.body) (hH.sublist (.cons_cons _ (.cons_cons _ (.cons_cons _ (.cons_cons _ (.cons_cons _ (List.nil_sublist _))))))) rfl rfl (.bool (decide ((p.idx : Int) < (ix : Int)))) (by kernel_rfl) ?_
        refine gd_keep [(0, .pointer (some ⟨yb, 0, none⟩)), (3, .pointer (some ⟨b1, 0, none⟩)), (4, .pointer (some ⟨b3, 0, none⟩)), (8, .bool sm), (45, .bool true), (70, .bool (decide ((p.idx : Int) < (ix : Int))))] (by kernel_rfl) ?_
        refine gd_pure 30 rfl (by kernel_rfl) (PQ.th PQ.body) (hH.sublist (.cons_cons _ (.cons_cons _ (.cons_cons _ (.cons_cons _ (.cons_cons _ (List.nil_sublist _))))))) rfl rfl (.bool (decide ((p.idx : Int) < (ix : Int)))) (by kernel_rfl) ?_
        refine gd_pure 31 rfl (by kernel_rfl) (PQ.th PQ.body) (hH.sublist (.cons_cons _ (.cons_cons _ (.cons_cons _ (.cons_cons _ (.cons_cons _ (List.nil_sublist _))))))) rfl rfl (.bool (decide ((p.idx : Int) < (ix : Int)))) (by kernel_rfl) ?_
        refine gd_done (by kernel_rfl) ?_
        refine at_sub [(0, .pointer (some ⟨yb, 0, none⟩)), (3, .pointer (some ⟨b1, 0, none⟩)), (4, .pointer (some ⟨b3, 0, none⟩)), (8, .bool sm), (9, .bool (decide ((p.idx : Int) < (ix : Int))))] (Sub.of_eq (by kernel_rfl)) ?_
        refine cut_end (decide ((p.idx : Int) < (ix : Int))) (Sub.of_eq (by kernel_rfl)) ?_
        first | exact ⟨by rw [beq_iff_eq]; omega, hH⟩ | exact ⟨by rw [decide_eq_true_eq]; omega, hH⟩ | exact ⟨⟨fun hh => by omega, fun hh => rfl⟩, hH⟩ | exact ⟨⟨fun hh => Bool.noConfusion hh, fun hh => by omega⟩, hH⟩
      ·
        try simp only [decide_eq_false_iff_not, beq_eq_false_iff_ne, bne_eq_false_iff_eq, ne_eq, Decidable.not_not, Int.not_lt, Int.not_le, Bool.not_eq_false', beq_iff_eq, bne_iff_ne, decide_eq_true_eq] at hg4
        refine gd_not 21 rfl (by kernel_rfl) (PQ.th PQ.body) (hH.sublist (.cons_cons _ (.cons_cons _ (.cons_cons _ (.cons_cons _ (.cons_cons _ (List.nil_sublist _))))))) rfl rfl ?_
        refine gd_not 22 rfl (by kernel_rfl) (PQ.th PQ.body) (hH.sublist (.cons_cons _ (.cons_cons _ (.cons_cons _ (.cons_cons _ (.cons_cons _ (List.nil_sublist _))))))) rfl rfl ?_
        refine gd_not 23 rfl (by kernel_rfl) (PQ.th PQ.body) (hH.sublist (.cons_cons _ (.cons_cons _ (.cons_cons _ (.cons_cons _ (.cons_cons _ (List.nil_sublist _))))))) rfl rfl ?_
        refine gd_keep [(0, .pointer (some ⟨yb, 0, none⟩)), (3, .pointer (some ⟨b1, 0, none⟩)), (4, .pointer (some ⟨b3, 0, none⟩)), (8, .bool sm), (45, .bool true), (53, .bool false), (61, .bool false), (63, undef), (64, undef)] (by kernel_rfl) ?_
        refine gd_not 24 rfl (by kernel_rfl) (PQ.th PQ.body) (hH.sublist (.cons_cons _ (.cons_cons _ (.cons_cons _ (.cons_cons _ (.cons_cons _ (List.nil_sublist _))))))) rfl rfl ?_
        refine gd_not 25 rfl (by kernel_rfl) (PQ.th PQ.body) (hH.sublist (.cons_cons _ (.cons_cons _ (.cons_cons _ (.cons_cons _ (.cons_cons _ (List.nil_sublist _))))))) rfl rfl ?_
        refine gd_not 26 rfl (by kernel_rfl) (PQ.th PQ.body) (hH.sublist (.cons_cons _ (.cons_cons _ (.cons_cons _ (.cons_cons _ (.cons_cons _ (List.nil_sublist _))))))) rfl rfl ?_
        refine gd_keep [(0, .pointer (some ⟨yb, 0, none⟩)), (3, .pointer (some ⟨b1, 0, none⟩)), (4, .pointer (some ⟨b3, 0, none⟩)), (8, .bool sm), (45, .bool true), (53, .bool false), (61, .bool false), (63, undef), (67, undef)] (by kernel_rfl) ?_
        refine gd_not 27 rfl (by kernel_rfl) (PQ.th PQ.body) (hH.sublist (.cons_cons _ (.cons_cons _ (.cons_cons _ (.cons_cons _ (.cons_cons _ (List.nil_sublist _))))))) rfl rfl ?_
        refine gd_pure 28 rfl (by kernel_rfl) (PQ.th PQ.body) (hH.sublist (.cons_cons _ (.cons_cons _ (.cons_cons _ (.cons_cons _ (.cons_cons _ (List.nil_sublist _))))))) rfl rfl (.bool false) (by kernel_rfl) ?_
        refine gd_pure 29 rfl (by kernel_rfl) (PQ.th PQ.body) (hH.sublist (.cons_cons _ (.cons_cons _ (.cons_cons _ (.cons_cons _ (.cons_cons _ (List.nil_sublist _))))))) rfl rfl (.bool false) (by kernel_rfl) ?_
        refine gd_keep [(0, .pointer (some ⟨yb, 0, none⟩)), (3, .pointer (some ⟨b1, 0, none⟩)), (4, .pointer (some ⟨b3, 0, none⟩)), (8, .bool sm), (45, .bool true), (70, .bool false)] (by kernel_rfl) ?_
        refine gd_pure 30 rfl (by kernel_rfl) (PQ.th PQ.body) (hH.sublist (.cons_cons _ (.cons_cons _ (.cons_cons _ (.cons_cons _ (.cons_cons _ (List.nil_sublist _))))))) rfl rfl (.bool false) (by kernel_rfl) ?_
        refine gd_pure 31 rfl (by kernel_rfl) (PQ.th PQ.body) (hH.sublist (.cons_cons _ (.cons_cons _ (.cons_cons _ (.cons_cons _ (.cons_cons _ (List.nil_sublist _))))))) rfl rfl (.bool false) (by kernel_rfl) ?_
        refine gd_done (by kernel_rfl) ?_
        refine at_sub [(0, .pointer (some ⟨yb, 0, none⟩)), (3, .pointer (some ⟨b1, 0, none⟩)), (4, .pointer (some ⟨b3, 0, none⟩)), (8, .bool sm), (9, .bool false)] (Sub.of_eq (by kernel_rfl)) ?_
        refine cut_end (false) (Sub.of_eq (by kernel_rfl)) ?_
        first | exact ⟨by rw [beq_iff_eq]; omega, hH⟩ | exact ⟨by rw [decide_eq_true_eq]; omega, hH⟩ | exact ⟨⟨fun hh => by omega, fun hh => rfl⟩, hH⟩ | exact ⟨⟨fun hh => Bool.noConfusion hh, fun hh => by omega⟩, hH⟩
  clear hH
  rintro od w11 ⟨hod, hH⟩
  refine sw_keep [(0, .pointer (some ⟨yb, 0, none⟩)), (3, .pointer (some ⟨b1, 0, none⟩)), (4, .pointer (some ⟨b3, 0, none⟩)), (8, .bool sm), (9, .bool od)] (by kernel_rfl) ?_
  refine sw_cut (γ := Unit) (fun _ => [(0, .pointer (some ⟨yb, 0, none⟩)), (3, .pointer (some ⟨b1, 0, none⟩)), (4, .pointer (some ⟨b3, 0, none⟩)), (8, .bool sm)]) (fun _ w_ => ((sm = true ∧ ((mn : Nat) : Int) = p.many) ∨ (sm = false ∧ (tn < p.term ∨ tn = p.term ∧ ix < p.idx))) ∧ Hp w w_ (off w (blksOf [.grp (rbxO yb (.slice Ar mn cr) (.slice At mn ct) ⟨some (tn, ix), mn, rs⟩)])) (blksOf [.grp (rbxO yb (.slice Ar mn cr) (.slice At mn ct) ⟨some (tn, ix), mn, rs⟩)]) [.blk yb 58 [.bool true, .int .i64 ix, .int .i64 tn, .bool (decide (mn ≠ 0)), .slice Ar mn cr, .slice At mn ct], .row (.slice Ar mn cr) 9 1 mn (rowsL ⟨some (tn, ix), mn, rs⟩), .row (.slice At mn ct) 4 1 mn (thereL ⟨some (tn, ix), mn, rs⟩), .blk b1 48 [.int .i64 p.idx, .int .i64 p.term, .int .i64 p.n, .int .i64 p.many, .slice Ab p.bytes.length cb], .blk b3 24 [.int .i64 0, .int .i64 0, .slice none 0 0, .slice none 0 0]]) ?_ ?_
  ·
    refine sw_seq ?_
    refine sw_draw (by kernel_rfl) (fun w_ => Hp w w_ (off w (blksOf [.grp (rbxO yb (.slice Ar mn cr) (.slice At mn ct) ⟨some (tn, ix), mn, rs⟩)])) (blksOf [.grp (rbxO yb (.slice Ar mn cr) (.slice At mn ct) ⟨some (tn, ix), mn, rs⟩)]) [.blk yb 58 [.bool true, .int .i64 ix, .int .i64 tn, .bool (decide (mn ≠ 0)), .slice Ar mn cr, .slice At mn ct], .row (.slice Ar mn cr) 9 1 mn (rowsL ⟨some (tn, ix), mn, rs⟩), .row (.slice At mn ct) 4 1 mn (thereL ⟨some (tn, ix), mn, rs⟩), .blk b1 48 [.int .i64 p.idx, .int .i64 p.term, .int .i64 p.n, .int .i64 p.many, .slice Ab p.bytes.length cb], .blk b3 24 [.int .i64 0, .int .i64 0, .slice none 0 0, .slice none 0 0]]) ?_  -- R6 ref.go:144
    replace hH := hH.drew
    generalize { w11 with drawn := w11.drawn + 1 } = w12 at hH ⊢
    refine gd_pure 0 rfl (by kernel_rfl) (PQ.th (PQ.th PQ.body)) (hH.sublist (.cons_cons _ (.cons_cons _ (.cons_cons _ (.cons_cons _ (.cons_cons _ (List.nil_sublist _))))))) rfl rfl (.bool od) (by kernel_rfl) ?_
    refine gd_pure 1 rfl (by kernel_rfl) (PQ.th (PQ.th PQ.body)) (hH.sublist (.cons_cons _ (.cons_cons _ (.cons_cons _ (.cons_cons _ (.cons_cons _ (List.nil_sublist _))))))) rfl rfl (.bool od) (by kernel_rfl) ?_
    refine gd_split 73 (b := od) rfl (fun hg5 => ?_) (fun hg5 => ?_)
    ·
      refine gd_cv 72 (.bool true) (by rw [hg5]) rfl ?_
      try simp only [decide_eq_true_eq, beq_iff_eq, bne_iff_ne, ne_eq, Bool.not_eq_true', beq_eq_false_iff_ne, bne_eq_false_iff_eq, decide_eq_false_iff_not, Int.not_lt, Int.not_le] at hg5
      have hodt := hg5
      refine gd_not 2 rfl (by kernel_rfl) (PQ.th (PQ.th PQ.body)) (hH.sublist (.cons_cons _ (.cons_cons _ (.cons_cons _ (.cons_cons _ (.cons_cons _ (List.nil_sublist _))))))) rfl rfl ?_
      refine gd_keep [(0, .pointer (some ⟨yb, 0, none⟩)), (3, .pointer (some ⟨b1, 0, none⟩)), (4, .pointer (some ⟨b3, 0, none⟩)), (8, .bool sm), (73, .bool true), (74, undef)] (by kernel_rfl) ?_
      refine gd_not 3 rfl (by kernel_rfl) (PQ.th (PQ.th PQ.body)) (hH.sublist (.cons_cons _ (.cons_cons _ (.cons_cons _ (.cons_cons _ (.cons_cons _ (List.nil_sublist _))))))) rfl rfl ?_
      refine gd_not 4 rfl (by kernel_rfl) (PQ.th (PQ.th PQ.body)) (hH.sublist (.cons_cons _ (.cons_cons _ (.cons_cons _ (.cons_cons _ (.cons_cons _ (List.nil_sublist _))))))) rfl rfl ?_
      refine gd_not 5 rfl (by kernel_rfl) (PQ.th (PQ.th PQ.body)) (hH.sublist (.cons_cons _ (.cons_cons _ (.cons_cons _ (.cons_cons _ (.cons_cons _ (List.nil_sublist _))))))) rfl rfl ?_
      refine gd_keep [(0, .pointer (some ⟨yb, 0, none⟩)), (3, .pointer (some ⟨b1, 0, none⟩)), (4, .pointer (some ⟨b3, 0, none⟩)), (8, .bool sm), (73, .bool true), (75, undef), (77, undef)] (by kernel_rfl) ?_
      refine gd_not 6 rfl (by kernel_rfl) (PQ.th (PQ.th PQ.body)) (hH.sublist (.cons_cons _ (.cons_cons _ (.cons_cons _ (.cons_cons _ (.cons_cons _ (List.nil_sublist _))))))) rfl rfl ?_
      refine gd_not 7 rfl (by kernel_rfl) (PQ.th (PQ.th PQ.body)) (hH.sublist (.cons_cons _ (.cons_cons _ (.cons_cons _ (.cons_cons _ (.cons_cons _ (List.nil_sublist _))))))) rfl rfl ?_
      refine gd_not 8 rfl (by kernel_rfl) (PQ.th (PQ.th PQ.body)) (hH.sublist (.cons_cons _ (.cons_cons _ (.cons_cons _ (.cons_cons _ (.cons_cons _ (List.nil_sublist _))))))) rfl rfl ?_
      refine gd_keep [(0, .pointer (some ⟨yb, 0, none⟩)), (3, .pointer (some ⟨b1, 0, none⟩)), (4, .pointer (some ⟨b3, 0, none⟩)), (8, .bool sm), (73, .bool true), (75, undef), (80, undef)] (by kernel_rfl) ?_
      refine gd_not 9 rfl (by kernel_rfl) (PQ.th (PQ.th PQ.body)) (hH.sublist (.cons_cons _ (.cons_cons _ (.cons_cons _ (.cons_cons _ (.cons_cons _ (List.nil_sublist _))))))) rfl rfl ?_
      refine gd_not 10 rfl (by kernel_rfl) (PQ.th (PQ.th PQ.body)) (hH.sublist (.cons_cons _ (.cons_cons _ (.cons_cons _ (.cons_cons _ (.cons_cons _ (List.nil_sublist _))))))) rfl rfl ?_
      refine gd_not 11 rfl (by kernel_rfl) (PQ.th (PQ.th PQ.body)) (hH.sublist (.cons_cons _ (.cons_cons _ (.cons_cons _ (.cons_cons _ (.cons_cons _ (List.nil_sublist _))))))) rfl rfl ?_
      refine gd_keep [(0, .pointer (some ⟨yb, 0, none⟩)), (3, .pointer (some ⟨b1, 0, none⟩)), (4, .pointer (some ⟨b3, 0, none⟩)), (8, .bool sm), (73, .bool true), (75, undef), (81, undef), (83, undef)] (by kernel_rfl) ?_
      refine gd_not 12 rfl (by kernel_rfl) (PQ.th (PQ.th PQ.body)) (hH.sublist (.cons_cons _ (.cons_cons _ (.cons_cons _ (.cons_cons _ (.cons_cons _ (List.nil_sublist _))))))) rfl rfl ?_
      refine gd_not 13 rfl (by kernel_rfl) (PQ.th (PQ.th PQ.body)) (hH.sublist (.cons_cons _ (.cons_cons _ (.cons_cons _ (.cons_cons _ (.cons_cons _ (List.nil_sublist _))))))) rfl rfl ?_
      refine gd_not 14 rfl (by kernel_rfl) (PQ.th (PQ.th PQ.body)) (hH.sublist (.cons_cons _ (.cons_cons _ (.cons_cons _ (.cons_cons _ (.cons_cons _ (List.nil_sublist _))))))) rfl rfl ?_
      refine gd_keep [(0, .pointer (some ⟨yb, 0, none⟩)), (3, .pointer (some ⟨b1, 0, none⟩)), (4, .pointer (some ⟨b3, 0, none⟩)), (8, .bool sm), (73, .bool true), (75, undef), (81, undef), (86, undef)] (by kernel_rfl) ?_
      refine gd_not 15 rfl (by kernel_rfl) (PQ.th (PQ.th PQ.body)) (hH.sublist (.cons_cons _ (.cons_cons _ (.cons_cons _ (.cons_cons _ (.cons_cons _ (List.nil_sublist _))))))) rfl rfl ?_
      refine gd_not 16 rfl (by kernel_rfl) (PQ.th (PQ.th PQ.body)) (hH.sublist (.cons_cons _ (.cons_cons _ (.cons_cons _ (.cons_cons _ (.cons_cons _ (List.nil_sublist _))))))) rfl rfl ?_
      refine gd_not 17 rfl (by kernel_rfl) (PQ.th (PQ.th PQ.body)) (hH.sublist (.cons_cons _ (.cons_cons _ (.cons_cons _ (.cons_cons _ (.cons_cons _ (List.nil_sublist _))))))) rfl rfl ?_
      refine gd_keep [(0, .pointer (some ⟨yb, 0, none⟩)), (3, .pointer (some ⟨b1, 0, none⟩)), (4, .pointer (some ⟨b3, 0, none⟩)), (8, .bool sm), (73, .bool true), (75, undef), (81, undef), (89, undef)] (by kernel_rfl) ?_
      refine gd_not 18 rfl (by kernel_rfl) (PQ.th (PQ.th PQ.body)) (hH.sublist (.cons_cons _ (.cons_cons _ (.cons_cons _ (.cons_cons _ (.cons_cons _ (List.nil_sublist _))))))) rfl rfl ?_
      refine gd_not 19 rfl (by kernel_rfl) (PQ.th (PQ.th PQ.body)) (hH.sublist (.cons_cons _ (.cons_cons _ (.cons_cons _ (.cons_cons _ (.cons_cons _ (List.nil_sublist _))))))) rfl rfl ?_
      refine gd_pure 20 rfl (by kernel_rfl) (PQ.th (PQ.th PQ.body)) (hH.sublist (.cons_cons _ (.cons_cons _ (.cons_cons _ (.cons_cons _ (.cons_cons _ (List.nil_sublist _))))))) rfl rfl (.bool true) (by kernel_rfl) ?_
      refine gd_keep [(0, .pointer (some ⟨yb, 0, none⟩)), (3, .pointer (some ⟨b1, 0, none⟩)), (4, .pointer (some ⟨b3, 0, none⟩)), (8, .bool sm), (92, .bool true)] (by kernel_rfl) ?_
      refine gd_done (by kernel_rfl) ?_
      refine at_sub [(0, .pointer (some ⟨yb, 0, none⟩)), (3, .pointer (some ⟨b1, 0, none⟩)), (4, .pointer (some ⟨b3, 0, none⟩)), (8, .bool sm), (92, .bool true)] (Sub.of_eq (by kernel_rfl)) ?_
      refine sw_next ?_
      refine sw_true rfl rfl ?_
      refine sw_seq ?_
      refine sw_region ?_  -- R7 ref.go:145
      refine gl_ops 1 [(4, .pointer (some ⟨b3, 0, none⟩)), (93, .agg #[.int .i64 0, .int .i64 0, .slice none 0 0, .slice none 0 0])] (by kernel_rfl) ?_
      refine gl_st (st_storeKA (vs := [.int .i64 0, .int .i64 0, .slice none 0 0, .slice none 0 0]) 4 rfl rfl rfl hH rfl rfl (by kernel_rfl) (by kernel_rfl) rfl (by simp) [.int .i64 0, .int .i64 0, .slice none 0 0, .slice none 0 0] rfl ?_)
      clear hH; intro w13 hH
      refine gl_ops 2 [(4, .pointer (some ⟨b3, 0, none⟩)), (5, .bool false), (6, .int .i64 91)] (by kernel_rfl) ?_
      refine gl_done rfl ?_
      refine sw_next ?_
      refine sw_ret ?_
      refine thR ?_
      refine retC3 rfl (RS.cellA hH 4 (by kernel_rfl) rfl rfl (by kernel_rfl) [.int .i64 0, .int .i64 0, .slice none 0 0, .slice none 0 0] rfl rfl) (RS.tmp rfl) (RS.tmp rfl) ?_
      replace hH := (hH.sublist (.cons_cons _ (.cons_cons _ (.cons_cons _ (List.nil_sublist _)))))
      replace hH : Hp w w13 (off w (blksOf [.grp (rbxO yb (.slice Ar mn cr) (.slice At mn ct) ⟨some (tn, ix), mn, rs⟩)])) (blksOf [.grp (rbxO yb (.slice Ar mn cr) (.slice At mn ct) ⟨some (tn, ix), mn, rs⟩)]) [.blk yb 58 [.bool true, .int .i64 ix, .int .i64 tn, .bool (decide (mn ≠ 0)), .slice Ar mn cr, .slice At mn ct], .row (.slice Ar mn cr) 9 1 mn (rowsL ⟨some (tn, ix), mn, rs⟩), .row (.slice At mn ct) 4 1 mn (thereL ⟨some (tn, ix), mn, rs⟩)] := hH
      replace hH : Hp w w13 (off w (blksOf [.grp (rbxO yb (.slice Ar mn cr) (.slice At mn ct) ⟨some (tn, ix), mn, rs⟩)])) (blksOf [.grp (rbxO yb (.slice Ar mn cr) (.slice At mn ct) ⟨some (tn, ix), mn, rs⟩)]) (rbxO yb (.slice Ar mn cr) (.slice At mn ct) ⟨some (tn, ix), mn, rs⟩ ++ []) := hH
      have hr := putI_ref (S := ⟨some (tn, ix), mn, rs⟩) (p := p) nv hc1 (base_old (.inl (hod.1 hodt)))
      refine ⟨.slice Ar mn cr, .slice At mn ct, .slice none 0 0, .slice none 0 0, ?_⟩
      rw [hr]
      exact ⟨rfl, (((hH.close).nilRow 5 1).nilRow 5 1).turned⟩
    ·
      refine gd_cv 72 (.bool false) (by rw [hg5]) rfl ?_
      try simp only [decide_eq_false_iff_not, beq_eq_false_iff_ne, bne_eq_false_iff_eq, ne_eq, Decidable.not_not, Int.not_lt, Int.not_le, Bool.not_eq_false', beq_iff_eq, bne_iff_ne, decide_eq_true_eq] at hg5
      have hod0 := hg5
      refine gd_pure 2 rfl (by kernel_rfl) (PQ.th (PQ.th PQ.body)) (hH.sublist (.cons_cons _ (.cons_cons _ (.cons_cons _ (.cons_cons _ (.cons_cons _ (List.nil_sublist _))))))) rfl rfl (.bool sm) (by kernel_rfl) ?_
      refine gd_keep [(0, .pointer (some ⟨yb, 0, none⟩)), (3, .pointer (some ⟨b1, 0, none⟩)), (4, .pointer (some ⟨b3, 0, none⟩)), (8, .bool sm), (73, .bool false), (74, .bool sm)] (by kernel_rfl) ?_
      refine gd_pure 3 rfl (by kernel_rfl) (PQ.th (PQ.th PQ.body)) (hH.sublist (.cons_cons _ (.cons_cons _ (.cons_cons _ (.cons_cons _ (.cons_cons _ (List.nil_sublist _))))))) rfl rfl (.bool sm) (by kernel_rfl) ?_
      refine gd_split 75 (b := sm) rfl (fun hg7 => ?_) (fun hg7 => ?_)
      ·
        refine gd_cv 74 (.bool true) (by rw [hg7]) rfl ?_
        try simp only [decide_eq_true_eq, beq_iff_eq, bne_iff_ne, ne_eq, Bool.not_eq_true', beq_eq_false_iff_ne, bne_eq_false_iff_eq, decide_eq_false_iff_not, Int.not_lt, Int.not_le] at hg7
        have hsm1 := hg7
        refine gd_pure 4 rfl (by kernel_rfl) (PQ.th (PQ.th PQ.body)) (hH.sublist (.cons_cons _ (.cons_cons _ (.cons_cons _ (.cons_cons _ (.cons_cons _ (List.nil_sublist _))))))) rfl rfl (.pointer (some ⟨yb, 0, none⟩)) (by kernel_rfl) ?_
        refine gd_pure 5 rfl (by kernel_rfl) (PQ.th (PQ.th PQ.body)) (hH.sublist (.cons_cons _ (.cons_cons _ (.cons_cons _ (.cons_cons _ (.cons_cons _ (List.nil_sublist _))))))) rfl rfl (.pointer (some ⟨yb, 0, none⟩)) (by kernel_rfl) ?_
        refine gd_keep [(0, .pointer (some ⟨yb, 0, none⟩)), (3, .pointer (some ⟨b1, 0, none⟩)), (4, .pointer (some ⟨b3, 0, none⟩)), (8, .bool sm), (73, .bool false), (75, .bool true), (77, .pointer (some ⟨yb, 0, none⟩))] (by kernel_rfl) ?_
        refine gd_pure 6 rfl (by kernel_rfl) (PQ.th (PQ.th PQ.body)) (hH.sublist (.cons_cons _ (.cons_cons _ (.cons_cons _ (.cons_cons _ (.cons_cons _ (List.nil_sublist _))))))) rfl rfl (.pointer (some ⟨yb, 3, none⟩)) (by kernel_rfl) ?_
        refine gd_q 7 rfl (by kernel_rfl) (PQ.th (PQ.th PQ.body)) (hH.sublist (.cons_cons _ (.cons_cons _ (.cons_cons _ (.cons_cons _ (.cons_cons _ (List.nil_sublist _))))))) rfl rfl (fun w_ hS => (rd_loadK 0 (by kernel_rfl) hS rfl rfl rfl)) ?_
        refine gd_pure 8 rfl (by kernel_rfl) (PQ.th (PQ.th PQ.body)) (hH.sublist (.cons_cons _ (.cons_cons _ (.cons_cons _ (.cons_cons _ (.cons_cons _ (List.nil_sublist _))))))) rfl rfl (.bool (!(decide (mn ≠ 0)))) (by kernel_rfl) ?_
        refine gd_keep [(0, .pointer (some ⟨yb, 0, none⟩)), (3, .pointer (some ⟨b1, 0, none⟩)), (4, .pointer (some ⟨b3, 0, none⟩)), (8, .bool sm), (73, .bool false), (75, .bool true), (80, .bool (!(decide (mn ≠ 0))))] (by kernel_rfl) ?_
        refine gd_pure 9 rfl (by kernel_rfl) (PQ.th (PQ.th PQ.body)) (hH.sublist (.cons_cons _ (.cons_cons _ (.cons_cons _ (.cons_cons _ (.cons_cons _ (List.nil_sublist _))))))) rfl rfl (.bool (!(decide (mn ≠ 0)))) (by kernel_rfl) ?_
        refine gd_split 81 (b := !(decide (mn ≠ 0))) rfl (fun hg8 => ?_) (fun hg8 => ?_)
        ·
          refine gd_cv 80 (.bool true) (by rw [hg8]) rfl ?_
          try simp only [decide_eq_true_eq, beq_iff_eq, bne_iff_ne, ne_eq, Bool.not_eq_true', beq_eq_false_iff_ne, bne_eq_false_iff_eq, decide_eq_false_iff_not, Int.not_lt, Int.not_le] at hg8
          have hcl : mn = 0 := by simpa using hg8
          refine gd_not 10 rfl (by kernel_rfl) (PQ.th (PQ.th PQ.body)) (hH.sublist (.cons_cons _ (.cons_cons _ (.cons_cons _ (.cons_cons _ (.cons_cons _ (List.nil_sublist _))))))) rfl rfl ?_
          refine gd_not 11 rfl (by kernel_rfl) (PQ.th (PQ.th PQ.body)) (hH.sublist (.cons_cons _ (.cons_cons _ (.cons_cons _ (.cons_cons _ (.cons_cons _ (List.nil_sublist _))))))) rfl rfl ?_
          refine gd_keep [(0, .pointer (some ⟨yb, 0, none⟩)), (3, .pointer (some ⟨b1, 0, none⟩)), (4, .pointer (some ⟨b3, 0, none⟩)), (8, .bool sm), (73, .bool false), (75, .bool true), (81, .bool true), (83, undef)] (by kernel_rfl) ?_
          refine gd_not 12 rfl (by kernel_rfl) (PQ.th (PQ.th PQ.body)) (hH.sublist (.cons_cons _ (.cons_cons _ (.cons_cons _ (.cons_cons _ (.cons_cons _ (List.nil_sublist _))))))) rfl rfl ?_
          refine gd_not 13 rfl (by kernel_rfl) (PQ.th (PQ.th PQ.body)) (hH.sublist (.cons_cons _ (.cons_cons _ (.cons_cons _ (.cons_cons _ (.cons_cons _ (List.nil_sublist _))))))) rfl rfl ?_
          refine gd_not 14 rfl (by kernel_rfl) (PQ.th (PQ.th PQ.body)) (hH.sublist (.cons_cons _ (.cons_cons _ (.cons_cons _ (.cons_cons _ (.cons_cons _ (List.nil_sublist _))))))) rfl rfl ?_
          refine gd_keep [(0, .pointer (some ⟨yb, 0, none⟩)), (3, .pointer (some ⟨b1, 0, none⟩)), (4, .pointer (some ⟨b3, 0, none⟩)), (8, .bool sm), (73, .bool false), (75, .bool true), (81, .bool true), (86, undef)] (by kernel_rfl) ?_
          refine gd_not 15 rfl (by kernel_rfl) (PQ.th (PQ.th PQ.body)) (hH.sublist (.cons_cons _ (.cons_cons _ (.cons_cons _ (.cons_cons _ (.cons_cons _ (List.nil_sublist _))))))) rfl rfl ?_
          refine gd_not 16 rfl (by kernel_rfl) (PQ.th (PQ.th PQ.body)) (hH.sublist (.cons_cons _ (.cons_cons _ (.cons_cons _ (.cons_cons _ (.cons_cons _ (List.nil_sublist _))))))) rfl rfl ?_
          refine gd_not 17 rfl (by kernel_rfl) (PQ.th (PQ.th PQ.body)) (hH.sublist (.cons_cons _ (.cons_cons _ (.cons_cons _ (.cons_cons _ (.cons_cons _ (List.nil_sublist _))))))) rfl rfl ?_
          refine gd_keep [(0, .pointer (some ⟨yb, 0, none⟩)), (3, .pointer (some ⟨b1, 0, none⟩)), (4, .pointer (some ⟨b3, 0, none⟩)), (8, .bool sm), (73, .bool false), (75, .bool true), (81, .bool true), (89, undef)] (by kernel_rfl) ?_
          refine gd_pure 18 rfl (by kernel_rfl) (PQ.th (PQ.th PQ.body)) (hH.sublist (.cons_cons _ (.cons_cons _ (.cons_cons _ (.cons_cons _ (.cons_cons _ (List.nil_sublist _))))))) rfl rfl (.bool true) (by kernel_rfl) ?_
          refine gd_pure 19 rfl (by kernel_rfl) (PQ.th (PQ.th PQ.body)) (hH.sublist (.cons_cons _ (.cons_cons _ (.cons_cons _ (.cons_cons _ (.cons_cons _ (List.nil_sublist _))))))) rfl rfl (.bool true) (by kernel_rfl) ?_
          refine gd_pure 20 rfl (by kernel_rfl) (PQ.th (PQ.th PQ.body)) (hH.sublist (.cons_cons _ (.cons_cons _ (.cons_cons _ (.cons_cons _ (.cons_cons _ (List.nil_sublist _))))))) rfl rfl (.bool true) (by kernel_rfl) ?_
          refine gd_keep [(0, .pointer (some ⟨yb, 0, none⟩)), (3, .pointer (some ⟨b1, 0, none⟩)), (4, .pointer (some ⟨b3, 0, none⟩)), (8, .bool sm), (92, .bool true)] (by kernel_rfl) ?_
          refine gd_done (by kernel_rfl) ?_
          refine at_sub [(0, .pointer (some ⟨yb, 0, none⟩)), (3, .pointer (some ⟨b1, 0, none⟩)), (4, .pointer (some ⟨b3, 0, none⟩)), (8, .bool sm), (92, .bool true)] (Sub.of_eq (by kernel_rfl)) ?_
          refine sw_next ?_
          refine sw_true rfl rfl ?_
          refine sw_seq ?_
          refine sw_region ?_  -- R7 ref.go:145
          refine gl_ops 1 [(4, .pointer (some ⟨b3, 0, none⟩)), (93, .agg #[.int .i64 0, .int .i64 0, .slice none 0 0, .slice none 0 0])] (by kernel_rfl) ?_
          refine gl_st (st_storeKA (vs := [.int .i64 0, .int .i64 0, .slice none 0 0, .slice none 0 0]) 4 rfl rfl rfl hH rfl rfl (by kernel_rfl) (by kernel_rfl) rfl (by simp) [.int .i64 0, .int .i64 0, .slice none 0 0, .slice none 0 0] rfl ?_)
          clear hH; intro w14 hH
          refine gl_ops 2 [(4, .pointer (some ⟨b3, 0, none⟩)), (5, .bool false), (6, .int .i64 91)] (by kernel_rfl) ?_
          refine gl_done rfl ?_
          refine sw_next ?_
          refine sw_ret ?_
          refine thR ?_
          refine retC3 rfl (RS.cellA hH 4 (by kernel_rfl) rfl rfl (by kernel_rfl) [.int .i64 0, .int .i64 0, .slice none 0 0, .slice none 0 0] rfl rfl) (RS.tmp rfl) (RS.tmp rfl) ?_
          replace hH := (hH.sublist (.cons_cons _ (.cons_cons _ (.cons_cons _ (List.nil_sublist _)))))
          replace hH : Hp w w14 (off w (blksOf [.grp (rbxO yb (.slice Ar mn cr) (.slice At mn ct) ⟨some (tn, ix), mn, rs⟩)])) (blksOf [.grp (rbxO yb (.slice Ar mn cr) (.slice At mn ct) ⟨some (tn, ix), mn, rs⟩)]) [.blk yb 58 [.bool true, .int .i64 ix, .int .i64 tn, .bool (decide (mn ≠ 0)), .slice Ar mn cr, .slice At mn ct], .row (.slice Ar mn cr) 9 1 mn (rowsL ⟨some (tn, ix), mn, rs⟩), .row (.slice At mn ct) 4 1 mn (thereL ⟨some (tn, ix), mn, rs⟩)] := hH
          replace hH : Hp w w14 (off w (blksOf [.grp (rbxO yb (.slice Ar mn cr) (.slice At mn ct) ⟨some (tn, ix), mn, rs⟩)])) (blksOf [.grp (rbxO yb (.slice Ar mn cr) (.slice At mn ct) ⟨some (tn, ix), mn, rs⟩)]) (rbxO yb (.slice Ar mn cr) (.slice At mn ct) ⟨some (tn, ix), mn, rs⟩ ++ []) := hH
          have hr := putI_ref (S := ⟨some (tn, ix), mn, rs⟩) (p := p) nv hc1 (base_old (.inr ⟨(hsm.1 hsm1).1, (hsm.1 hsm1).2, by omega⟩))
          refine ⟨.slice Ar mn cr, .slice At mn ct, .slice none 0 0, .slice none 0 0, ?_⟩
          rw [hr]
          exact ⟨rfl, (((hH.close).nilRow 5 1).nilRow 5 1).turned⟩
        ·
          refine gd_cv 80 (.bool false) (by rw [hg8]) rfl ?_
          try simp only [decide_eq_false_iff_not, beq_eq_false_iff_ne, bne_eq_false_iff_eq, ne_eq, Decidable.not_not, Int.not_lt, Int.not_le, Bool.not_eq_false', beq_iff_eq, bne_iff_ne, decide_eq_true_eq] at hg8
          refine gd_pure 10 rfl (by kernel_rfl) (PQ.th (PQ.th PQ.body)) (hH.sublist (.cons_cons _ (.cons_cons _ (.cons_cons _ (.cons_cons _ (.cons_cons _ (List.nil_sublist _))))))) rfl rfl (.pointer (some ⟨yb, 0, none⟩)) (by kernel_rfl) ?_
          refine gd_pure 11 rfl (by kernel_rfl) (PQ.th (PQ.th PQ.body)) (hH.sublist (.cons_cons _ (.cons_cons _ (.cons_cons _ (.cons_cons _ (.cons_cons _ (List.nil_sublist _))))))) rfl rfl (.pointer (some ⟨yb, 0, none⟩)) (by kernel_rfl) ?_
          refine gd_keep [(0, .pointer (some ⟨yb, 0, none⟩)), (3, .pointer (some ⟨b1, 0, none⟩)), (4, .pointer (some ⟨b3, 0, none⟩)), (8, .bool sm), (73, .bool false), (75, .bool true), (81, .bool false), (83, .pointer (some ⟨yb, 0, none⟩))] (by kernel_rfl) ?_
          refine gd_pure 12 rfl (by kernel_rfl) (PQ.th (PQ.th PQ.body)) (hH.sublist (.cons_cons _ (.cons_cons _ (.cons_cons _ (.cons_cons _ (.cons_cons _ (List.nil_sublist _))))))) rfl rfl (.pointer (some ⟨yb, 4, none⟩)) (by kernel_rfl) ?_
          refine gd_q 13 rfl (by kernel_rfl) (PQ.th (PQ.th PQ.body)) (hH.sublist (.cons_cons _ (.cons_cons _ (.cons_cons _ (.cons_cons _ (.cons_cons _ (List.nil_sublist _))))))) rfl rfl (fun w_ hS => (rd_loadK 0 (by kernel_rfl) hS rfl rfl rfl)) ?_
          refine gd_q 14 rfl (by kernel_rfl) (PQ.th (PQ.th PQ.body)) (hH.sublist (.cons_cons _ (.cons_cons _ (.cons_cons _ (.cons_cons _ (.cons_cons _ (List.nil_sublist _))))))) rfl rfl (fun w_ hS => (rd_len (e := 9) (by kernel_rfl) rfl)) ?_
          refine gd_keep [(0, .pointer (some ⟨yb, 0, none⟩)), (3, .pointer (some ⟨b1, 0, none⟩)), (4, .pointer (some ⟨b3, 0, none⟩)), (8, .bool sm), (73, .bool false), (75, .bool true), (81, .bool false), (86, .int .i64 ((mn : Nat) : Int))] (by kernel_rfl) ?_
          refine gd_pure 15 rfl (by kernel_rfl) (PQ.th (PQ.th PQ.body)) (hH.sublist (.cons_cons _ (.cons_cons _ (.cons_cons _ (.cons_cons _ (.cons_cons _ (List.nil_sublist _))))))) rfl rfl (.pointer (some ⟨b1, 3, none⟩)) (by kernel_rfl) ?_
          refine gd_q 16 rfl (by kernel_rfl) (PQ.th (PQ.th PQ.body)) (hH.sublist (.cons_cons _ (.cons_cons _ (.cons_cons _ (.cons_cons _ (.cons_cons _ (List.nil_sublist _))))))) rfl rfl (fun w_ hS => (rd_loadK 3 (by kernel_rfl) hS rfl rfl rfl)) ?_
          refine gd_pure 17 rfl (by kernel_rfl) (PQ.th (PQ.th PQ.body)) (hH.sublist (.cons_cons _ (.cons_cons _ (.cons_cons _ (.cons_cons _ (.cons_cons _ (List.nil_sublist _))))))) rfl rfl (.bool (((mn : Nat) : Int) != (p.many : Int))) (by kernel_rfl) ?_
          refine gd_keep [(0, .pointer (some ⟨yb, 0, none⟩)), (3, .pointer (some ⟨b1, 0, none⟩)), (4, .pointer (some ⟨b3, 0, none⟩)), (8, .bool sm), (73, .bool false), (75, .bool true), (81, .bool false), (89, .bool (((mn : Nat) : Int) != (p.many : Int)))] (by kernel_rfl) ?_
          refine gd_pure 18 rfl (by kernel_rfl) (PQ.th (PQ.th PQ.body)) (hH.sublist (.cons_cons _ (.cons_cons _ (.cons_cons _ (.cons_cons _ (.cons_cons _ (List.nil_sublist _))))))) rfl rfl (.bool (((mn : Nat) : Int) != (p.many : Int))) (by kernel_rfl) ?_
          refine gd_pure 19 rfl (by kernel_rfl) (PQ.th (PQ.th PQ.body)) (hH.sublist (.cons_cons _ (.cons_cons _ (.cons_cons _ (.cons_cons _ (.cons_cons _ (List.nil_sublist _))))))) rfl rfl (.bool (((mn : Nat) : Int) != (p.many : Int))) (by kernel_rfl) ?_
          refine gd_pure 20 rfl (by kernel_rfl) (PQ.th (PQ.th PQ.body)) (hH.sublist (.cons_cons _ (.cons_cons _ (.cons_cons _ (.cons_cons _ (.cons_cons _ (List.nil_sublist _))))))) rfl rfl (.bool (((mn : Nat) : Int) != (p.many : Int))) (by kernel_rfl) ?_
          refine gd_keep [(0, .pointer (some ⟨yb, 0, none⟩)), (3, .pointer (some ⟨b1, 0, none⟩)), (4, .pointer (some ⟨b3, 0, none⟩)), (8, .bool sm), (92, .bool (((mn : Nat) : Int) != (p.many : Int)))] (by kernel_rfl) ?_
          refine gd_done (by kernel_rfl) ?_
          refine at_sub [(0, .pointer (some ⟨yb, 0, none⟩)), (3, .pointer (some ⟨b1, 0, none⟩)), (4, .pointer (some ⟨b3, 0, none⟩)), (8, .bool sm), (92, .bool (((mn : Nat) : Int) != (p.many : Int)))] (Sub.of_eq (by kernel_rfl)) ?_
          refine sw_next ?_
          refine sw_cond rfl rfl (fun hc10 => ?_) (fun hc10 => ?_)
          ·
            try simp only [decide_eq_true_eq, beq_iff_eq, bne_iff_ne, ne_eq, Bool.not_eq_true', beq_eq_false_iff_ne, bne_eq_false_iff_eq, decide_eq_false_iff_not, Int.not_lt, Int.not_le] at hc10
            refine sw_seq ?_
            refine sw_region ?_  -- R7 ref.go:145
            refine gl_ops 1 [(4, .pointer (some ⟨b3, 0, none⟩)), (93, .agg #[.int .i64 0, .int .i64 0, .slice none 0 0, .slice none 0 0])] (by kernel_rfl) ?_
            refine gl_st (st_storeKA (vs := [.int .i64 0, .int .i64 0, .slice none 0 0, .slice none 0 0]) 4 rfl rfl rfl hH rfl rfl (by kernel_rfl) (by kernel_rfl) rfl (by simp) [.int .i64 0, .int .i64 0, .slice none 0 0, .slice none 0 0] rfl ?_)
            clear hH; intro w15 hH
            refine gl_ops 2 [(4, .pointer (some ⟨b3, 0, none⟩)), (5, .bool false), (6, .int .i64 91)] (by kernel_rfl) ?_
            refine gl_done rfl ?_
            refine sw_next ?_
            refine sw_ret ?_
            refine thR ?_
            refine retC3 rfl (RS.cellA hH 4 (by kernel_rfl) rfl rfl (by kernel_rfl) [.int .i64 0, .int .i64 0, .slice none 0 0, .slice none 0 0] rfl rfl) (RS.tmp rfl) (RS.tmp rfl) ?_
            replace hH := (hH.sublist (.cons_cons _ (.cons_cons _ (.cons_cons _ (List.nil_sublist _)))))
            replace hH : Hp w w15 (off w (blksOf [.grp (rbxO yb (.slice Ar mn cr) (.slice At mn ct) ⟨some (tn, ix), mn, rs⟩)])) (blksOf [.grp (rbxO yb (.slice Ar mn cr) (.slice At mn ct) ⟨some (tn, ix), mn, rs⟩)]) [.blk yb 58 [.bool true, .int .i64 ix, .int .i64 tn, .bool (decide (mn ≠ 0)), .slice Ar mn cr, .slice At mn ct], .row (.slice Ar mn cr) 9 1 mn (rowsL ⟨some (tn, ix), mn, rs⟩), .row (.slice At mn ct) 4 1 mn (thereL ⟨some (tn, ix), mn, rs⟩)] := hH
            replace hH : Hp w w15 (off w (blksOf [.grp (rbxO yb (.slice Ar mn cr) (.slice At mn ct) ⟨some (tn, ix), mn, rs⟩)])) (blksOf [.grp (rbxO yb (.slice Ar mn cr) (.slice At mn ct) ⟨some (tn, ix), mn, rs⟩)]) (rbxO yb (.slice Ar mn cr) (.slice At mn ct) ⟨some (tn, ix), mn, rs⟩ ++ []) := hH
            have hr := putI_ref (S := ⟨some (tn, ix), mn, rs⟩) (p := p) nv hc1 (base_old (.inr ⟨(hsm.1 hsm1).1, (hsm.1 hsm1).2, by omega⟩))
            refine ⟨.slice Ar mn cr, .slice At mn ct, .slice none 0 0, .slice none 0 0, ?_⟩
            rw [hr]
            exact ⟨rfl, (((hH.close).nilRow 5 1).nilRow 5 1).turned⟩
          try simp only [decide_eq_false_iff_not, beq_eq_false_iff_ne, bne_eq_false_iff_eq, ne_eq, Decidable.not_not, Int.not_lt, Int.not_le, Bool.not_eq_false', beq_iff_eq, bne_iff_ne, decide_eq_true_eq] at hc10
          refine sw_skip ?_
          refine cut_end (()) (Sub.of_eq (by kernel_rfl)) ?_
          exact ⟨.inl ⟨hsm1, by omega⟩, hH⟩
      ·
        refine gd_cv 74 (.bool false) (by rw [hg7]) rfl ?_
        try simp only [decide_eq_false_iff_not, beq_eq_false_iff_ne, bne_eq_false_iff_eq, ne_eq, Decidable.not_not, Int.not_lt, Int.not_le, Bool.not_eq_false', beq_iff_eq, bne_iff_ne, decide_eq_true_eq] at hg7
        have hsm0 := hg7
        refine gd_not 4 rfl (by kernel_rfl) (PQ.th (PQ.th PQ.body)) (hH.sublist (.cons_cons _ (.cons_cons _ (.cons_cons _ (.cons_cons _ (.cons_cons _ (List.nil_sublist _))))))) rfl rfl ?_
        refine gd_not 5 rfl (by kernel_rfl) (PQ.th (PQ.th PQ.body)) (hH.sublist (.cons_cons _ (.cons_cons _ (.cons_cons _ (.cons_cons _ (.cons_cons _ (List.nil_sublist _))))))) rfl rfl ?_
        refine gd_keep [(0, .pointer (some ⟨yb, 0, none⟩)), (3, .pointer (some ⟨b1, 0, none⟩)), (4, .pointer (some ⟨b3, 0, none⟩)), (8, .bool sm), (73, .bool false), (75, .bool false), (77, undef)] (by kernel_rfl) ?_
        refine gd_not 6 rfl (by kernel_rfl) (PQ.th (PQ.th PQ.body)) (hH.sublist (.cons_cons _ (.cons_cons _ (.cons_cons _ (.cons_cons _ (.cons_cons _ (List.nil_sublist _))))))) rfl rfl ?_
        refine gd_not 7 rfl (by kernel_rfl) (PQ.th (PQ.th PQ.body)) (hH.sublist (.cons_cons _ (.cons_cons _ (.cons_cons _ (.cons_cons _ (.cons_cons _ (List.nil_sublist _))))))) rfl rfl ?_
        refine gd_not 8 rfl (by kernel_rfl) (PQ.th (PQ.th PQ.body)) (hH.sublist (.cons_cons _ (.cons_cons _ (.cons_cons _ (.cons_cons _ (.cons_cons _ (List.nil_sublist _))))))) rfl rfl ?_
        refine gd_keep [(0, .pointer (some ⟨yb, 0, none⟩)), (3, .pointer (some ⟨b1, 0, none⟩)), (4, .pointer (some ⟨b3, 0, none⟩)), (8, .bool sm), (73, .bool false), (75, .bool false), (80, undef)] (by kernel_rfl) ?_
        refine gd_not 9 rfl (by kernel_rfl) (PQ.th (PQ.th PQ.body)) (hH.sublist (.cons_cons _ (.cons_cons _ (.cons_cons _ (.cons_cons _ (.cons_cons _ (List.nil_sublist _))))))) rfl rfl ?_
        refine gd_not 10 rfl (by kernel_rfl) (PQ.th (PQ.th PQ.body)) (hH.sublist (.cons_cons _ (.cons_cons _ (.cons_cons _ (.cons_cons _ (.cons_cons _ (List.nil_sublist _))))))) rfl rfl ?_
        refine gd_not 11 rfl (by kernel_rfl) (PQ.th (PQ.th PQ.body)) (hH.sublist (.cons_cons _ (.cons_cons _ (.cons_cons _ (.cons_cons _ (.cons_cons _ (List.nil_sublist _))))))) rfl rfl ?_
        refine gd_keep [(0, .pointer (some ⟨yb, 0, none⟩)), (3, .pointer (some ⟨b1, 0, none⟩)), (4, .pointer (some ⟨b3, 0, none⟩)), (8, .bool sm), (73, .bool false), (75, .bool false), (81, undef), (83, undef)] (by kernel_rfl) ?_
        refine gd_not 12 rfl (by kernel_rfl) (PQ.th (PQ.th PQ.body)) (hH.sublist (.cons_cons _ (.cons_cons _ (.cons_cons _ (.cons_cons _ (.cons_cons _ (List.nil_sublist _))))))) rfl rfl ?_
        refine gd_not 13 rfl (by kernel_rfl) (PQ.th (PQ.th PQ.body)) (hH.sublist (.cons_cons _ (.cons_cons _ (.cons_cons _ (.cons_cons _ (.cons_cons _ (List.nil_sublist _))))))) rfl rfl ?_
        refine gd_not 14 rfl (by kernel_rfl) (PQ.th (PQ.th PQ.body)) (hH.sublist (.cons_cons _ (.cons_cons _ (.cons_cons _ (.cons_cons _ (.cons_cons _ (List.nil_sublist _))))))) rfl rfl ?_
        refine gd_keep [(0, .pointer (some ⟨yb, 0, none⟩)), (3, .pointer (some ⟨b1, 0, none⟩)), (4, .pointer (some ⟨b3, 0, none⟩)), (8, .bool sm), (73, .bool false), (75, .bool false), (81, undef), (86, undef)] (by kernel_rfl) ?_
        refine gd_not 15 rfl (by kernel_rfl) (PQ.th (PQ.th PQ.body)) (hH.sublist (.cons_cons _ (.cons_cons _ (.cons_cons _ (.cons_cons _ (.cons_cons _ (List.nil_sublist _))))))) rfl rfl ?_
        refine gd_not 16 rfl (by kernel_rfl) (PQ.th (PQ.th PQ.body)) (hH.sublist (.cons_cons _ (.cons_cons _ (.cons_cons _ (.cons_cons _ (.cons_cons _ (List.nil_sublist _))))))) rfl rfl ?_
        refine gd_not 17 rfl (by kernel_rfl) (PQ.th (PQ.th PQ.body)) (hH.sublist (.cons_cons _ (.cons_cons _ (.cons_cons _ (.cons_cons _ (.cons_cons _ (List.nil_sublist _))))))) rfl rfl ?_
        refine gd_keep [(0, .pointer (some ⟨yb, 0, none⟩)), (3, .pointer (some ⟨b1, 0, none⟩)), (4, .pointer (some ⟨b3, 0, none⟩)), (8, .bool sm), (73, .bool false), (75, .bool false), (81, undef), (89, undef)] (by kernel_rfl) ?_
        refine gd_not 18 rfl (by kernel_rfl) (PQ.th (PQ.th PQ.body)) (hH.sublist (.cons_cons _ (.cons_cons _ (.cons_cons _ (.cons_cons _ (.cons_cons _ (List.nil_sublist _))))))) rfl rfl ?_
        refine gd_pure 19 rfl (by kernel_rfl) (PQ.th (PQ.th PQ.body)) (hH.sublist (.cons_cons _ (.cons_cons _ (.cons_cons _ (.cons_cons _ (.cons_cons _ (List.nil_sublist _))))))) rfl rfl (.bool false) (by kernel_rfl) ?_
        refine gd_pure 20 rfl (by kernel_rfl) (PQ.th (PQ.th PQ.body)) (hH.sublist (.cons_cons _ (.cons_cons _ (.cons_cons _ (.cons_cons _ (.cons_cons _ (List.nil_sublist _))))))) rfl rfl (.bool false) (by kernel_rfl) ?_
        refine gd_keep [(0, .pointer (some ⟨yb, 0, none⟩)), (3, .pointer (some ⟨b1, 0, none⟩)), (4, .pointer (some ⟨b3, 0, none⟩)), (8, .bool sm), (92, .bool false)] (by kernel_rfl) ?_
        refine gd_done (by kernel_rfl) ?_
        refine at_sub [(0, .pointer (some ⟨yb, 0, none⟩)), (3, .pointer (some ⟨b1, 0, none⟩)), (4, .pointer (some ⟨b3, 0, none⟩)), (8, .bool sm), (92, .bool false)] (Sub.of_eq (by kernel_rfl)) ?_
        refine sw_next ?_
        refine sw_false rfl rfl ?_
        refine sw_skip ?_
        refine cut_end (()) (Sub.of_eq (by kernel_rfl)) ?_
        exact ⟨.inr ⟨hsm0, rel_new hsm hod hsm0 hod0⟩, hH⟩
  clear hH
  rintro _ w16 ⟨hcase, hH⟩
  refine sw_keep [(0, .pointer (some ⟨yb, 0, none⟩)), (3, .pointer (some ⟨b1, 0, none⟩)), (4, .pointer (some ⟨b3, 0, none⟩)), (8, .bool sm)] (by kernel_rfl) ?_
  refine sw_cut (γ := List (Int × Value × List UInt8) × Option Addr × Nat × Option Addr × Nat) (fun (rs2, A2, c2, A3, c3) => [(0, .pointer (some ⟨yb, 0, none⟩)), (3, .pointer (some ⟨b1, 0, none⟩)), (4, .pointer (some ⟨b3, 0, none⟩))]) (fun (rs2, A2, c2, A3, c3) w_ => (baseI ⟨some (tn, ix), mn, rs⟩ p = some rs2) ∧ (∀ r ∈ rs2, r.2.2.length ≤ 512) ∧ (Keys rs2 p.many.toNat) ∧ Hp w w_ (off w (blksOf [.grp (rbxO yb (.slice Ar mn cr) (.slice At mn ct) ⟨some (tn, ix), mn, rs⟩)])) (blksOf [.grp (rbxO yb (.slice Ar mn cr) (.slice At mn ct) ⟨some (tn, ix), mn, rs⟩)]) [.blk yb 58 [.bool true, .int .i64 p.idx, .int .i64 p.term, .bool true, .slice A2 p.many.toNat c2, .slice A3 p.many.toNat c3], .row (.slice A2 p.many.toNat c2) 9 1 p.many.toNat (rowsL ⟨some (p.term, p.idx), p.many.toNat, rs2⟩), .row (.slice A3 p.many.toNat c3) 4 1 p.many.toNat (thereL ⟨some (p.term, p.idx), p.many.toNat, rs2⟩), .blk b1 48 [.int .i64 p.idx, .int .i64 p.term, .int .i64 p.n, .int .i64 p.many, .slice Ab p.bytes.length cb], .blk b3 24 [.int .i64 0, .int .i64 0, .slice none 0 0, .slice none 0 0]]) ?_ ?_
  ·
    refine sw_seq ?_
    refine sw_region ?_  -- R8 ref.go:147
    refine gl_ops 2 [(0, .pointer (some ⟨yb, 0, none⟩)), (3, .pointer (some ⟨b1, 0, none⟩)), (4, .pointer (some ⟨b3, 0, none⟩)), (95, .bool (!sm))] (by kernel_rfl) ?_
    refine gl_done rfl ?_
    refine sw_next ?_
    refine sw_cond rfl rfl (fun hc12 => ?_) (fun hc12 => ?_)
    ·
      try simp only [decide_eq_true_eq, beq_iff_eq, bne_iff_ne, ne_eq, Bool.not_eq_true', beq_eq_false_iff_ne, bne_eq_false_iff_eq, decide_eq_false_iff_not, Int.not_lt, Int.not_le] at hc12
      have hsmf := hc12
      have hrel := (hcase.resolve_left (fun h => by rw [h.1] at hsmf; cases hsmf)).2
      refine sw_seq ?_
      refine sw_region ?_  -- R9 ref.go:148
      refine gl_ops 3 [(0, .pointer (some ⟨yb, 0, none⟩)), (3, .pointer (some ⟨b1, 0, none⟩)), (4, .pointer (some ⟨b3, 0, none⟩)), (98, .pointer (some ⟨yb, 0, none⟩))] (by kernel_rfl) ?_
      refine gl_st (st_storeK (v := .bool true) 0 rfl rfl rfl hH rfl rfl rfl (by kernel_rfl) rfl (by simp) ?_)
      clear hH; intro w17 hH
      refine gl_done rfl ?_
      refine sw_next ?_
      refine sw_seq ?_
      refine sw_region ?_  -- R10 ref.go:149
      refine gl_ops 3 [(0, .pointer (some ⟨yb, 0, none⟩)), (3, .pointer (some ⟨b1, 0, none⟩)), (4, .pointer (some ⟨b3, 0, none⟩)), (101, .pointer (some ⟨yb, 3, none⟩))] (by kernel_rfl) ?_
      refine gl_st (st_storeK (v := .bool true) 0 rfl rfl rfl hH rfl rfl rfl (by kernel_rfl) rfl (by simp) ?_)
      clear hH; intro w18 hH
      refine gl_done rfl ?_
      refine sw_next ?_
      refine sw_seq ?_
      refine sw_region ?_  -- R11 ref.go:150
      refine gl_ops 2 [(0, .pointer (some ⟨yb, 0, none⟩)), (3, .pointer (some ⟨b1, 0, none⟩)), (4, .pointer (some ⟨b3, 0, none⟩)), (102, .pointer (some ⟨yb, 0, none⟩)), (103, .pointer (some ⟨b1, 0, none⟩))] (by kernel_rfl) ?_
      refine gl_q rfl rfl rfl (rd_loadK 3 (by kernel_rfl) hH rfl rfl rfl) ?_
      refine gl_ops 2 [(0, .pointer (some ⟨yb, 0, none⟩)), (3, .pointer (some ⟨b1, 0, none⟩)), (4, .pointer (some ⟨b3, 0, none⟩)), (104, .int .i64 p.idx), (106, .pointer (some ⟨yb, 1, none⟩))] (by kernel_rfl) ?_
      refine gl_st (st_storeK (v := .int .i64 p.idx) 0 rfl rfl rfl hH rfl rfl rfl (by kernel_rfl) rfl (by simp) ?_)
      clear hH; intro w19 hH
      refine gl_done rfl ?_
      refine sw_next ?_
      refine sw_seq ?_
      refine sw_region ?_  -- R12 ref.go:151
      refine gl_ops 2 [(0, .pointer (some ⟨yb, 0, none⟩)), (3, .pointer (some ⟨b1, 0, none⟩)), (4, .pointer (some ⟨b3, 0, none⟩)), (107, .pointer (some ⟨yb, 0, none⟩)), (108, .pointer (some ⟨b1, 1, none⟩))] (by kernel_rfl) ?_
      refine gl_q rfl rfl rfl (rd_loadK 3 (by kernel_rfl) hH rfl rfl rfl) ?_
      refine gl_ops 2 [(0, .pointer (some ⟨yb, 0, none⟩)), (3, .pointer (some ⟨b1, 0, none⟩)), (4, .pointer (some ⟨b3, 0, none⟩)), (109, .int .i64 p.term), (111, .pointer (some ⟨yb, 2, none⟩))] (by kernel_rfl) ?_
      refine gl_st (st_storeK (v := .int .i64 p.term) 0 rfl rfl rfl hH rfl rfl rfl (by kernel_rfl) rfl (by simp) ?_)
      clear hH; intro w20 hH
      refine gl_done rfl ?_
      refine sw_next ?_
      refine sw_seq ?_
      refine sw_region ?_  -- R13 ref.go:152
      refine gl_ops 2 [(0, .pointer (some ⟨yb, 0, none⟩)), (3, .pointer (some ⟨b1, 0, none⟩)), (4, .pointer (some ⟨b3, 0, none⟩)), (112, .pointer (some ⟨yb, 0, none⟩)), (113, .pointer (some ⟨b1, 3, none⟩))] (by kernel_rfl) ?_
      refine gl_q rfl rfl rfl (rd_loadK 3 (by kernel_rfl) hH rfl rfl rfl) ?_
      refine gl_cv 114 (.int .i64 ((p.many.toNat : Nat) : Int)) (by rw [hmm]) rfl ?_
      refine gl_st (st_makeH (e := 9) (zv := .string (bs [])) (bytes := 16) rfl rfl rfl (by kernel_rfl) (by kernel_rfl) rfl p.many.toNat rfl rfl (by omega) (by unfold maxLen; omega) hH ?_)
      clear hH; intro v21 w22 hH
      obtain ⟨A25, c26, rfl, hl27, hm28⟩ := hH.row_form 5 rfl
      replace hH := hH.row_eq 5 (l' := p.many.toNat) (xs' := rowsL ⟨some (p.term, p.idx), p.many.toNat, []⟩) rfl (rfl) (rowsL_new _ _)
      refine gl_ops 2 [(0, .pointer (some ⟨yb, 0, none⟩)), (3, .pointer (some ⟨b1, 0, none⟩)), (4, .pointer (some ⟨b3, 0, none⟩)), (115, .slice A25 p.many.toNat c26), (117, .pointer (some ⟨yb, 4, none⟩))] (by kernel_rfl) ?_
      refine gl_st (st_storeK (v := .slice A25 p.many.toNat c26) 0 rfl rfl rfl hH rfl rfl rfl (by kernel_rfl) rfl (by simp) ?_)
      clear hH; intro w29 hH
      refine gl_done rfl ?_
      refine sw_next ?_
      refine sw_region ?_  -- R14 ref.go:153
      refine gl_ops 2 [(0, .pointer (some ⟨yb, 0, none⟩)), (3, .pointer (some ⟨b1, 0, none⟩)), (4, .pointer (some ⟨b3, 0, none⟩)), (118, .pointer (some ⟨yb, 0, none⟩)), (119, .pointer (some ⟨b1, 3, none⟩))] (by kernel_rfl) ?_
      refine gl_q rfl rfl rfl (rd_loadK 3 (by kernel_rfl) hH rfl rfl rfl) ?_
      refine gl_cv 120 (.int .i64 ((p.many.toNat : Nat) : Int)) (by rw [hmm]) rfl ?_
      refine gl_st (st_makeH (e := 4) (zv := .bool false) (bytes := 1) rfl rfl rfl (by kernel_rfl) (by kernel_rfl) rfl p.many.toNat rfl rfl (by omega) (by unfold maxLen; omega) hH ?_)
      clear hH; intro v30 w31 hH
      obtain ⟨A34, c35, rfl, hl36, hm37⟩ := hH.row_form 6 rfl
      replace hH : Hp w w31 (off w (blksOf [.grp (rbxO yb (.slice Ar mn cr) (.slice At mn ct) ⟨some (tn, ix), mn, rs⟩)])) (blksOf [.grp (rbxO yb (.slice Ar mn cr) (.slice At mn ct) ⟨some (tn, ix), mn, rs⟩)]) [.blk yb 58 [.bool true, .int .i64 p.idx, .int .i64 p.term, .bool true, .slice A25 p.many.toNat c26, .slice At mn ct], .row (.slice Ar mn cr) 9 1 mn (rowsL ⟨some (tn, ix), mn, rs⟩), .row (.slice At mn ct) 4 1 mn (thereL ⟨some (tn, ix), mn, rs⟩), .blk b1 48 [.int .i64 p.idx, .int .i64 p.term, .int .i64 p.n, .int .i64 p.many, .slice Ab p.bytes.length cb], .blk b3 24 [.int .i64 0, .int .i64 0, .slice none 0 0, .slice none 0 0], .row (.slice A25 p.many.toNat c26) 9 1 p.many.toNat (rowsL ⟨some (p.term, p.idx), p.many.toNat, []⟩), .row (.slice A34 p.many.toNat c35) 4 1 p.many.toNat (List.replicate p.many.toNat (.bool false))] := hH
      replace hH := hH.row_eq 6 (l' := p.many.toNat) (xs' := thereL ⟨some (p.term, p.idx), p.many.toNat, []⟩) rfl (rfl) (thereL_new _ _)
      refine gl_ops 2 [(0, .pointer (some ⟨yb, 0, none⟩)), (3, .pointer (some ⟨b1, 0, none⟩)), (4, .pointer (some ⟨b3, 0, none⟩)), (121, .slice A34 p.many.toNat c35), (123, .pointer (some ⟨yb, 5, none⟩))] (by kernel_rfl) ?_
      refine gl_st (st_storeK (v := .slice A34 p.many.toNat c35) 0 rfl rfl rfl hH rfl rfl rfl (by kernel_rfl) rfl (by simp) ?_)
      clear hH; intro w38 hH
      replace hH : Hp w w38 (off w (blksOf [.grp (rbxO yb (.slice Ar mn cr) (.slice At mn ct) ⟨some (tn, ix), mn, rs⟩)])) (blksOf [.grp (rbxO yb (.slice Ar mn cr) (.slice At mn ct) ⟨some (tn, ix), mn, rs⟩)]) [.blk yb 58 [.bool true, .int .i64 p.idx, .int .i64 p.term, .bool true, .slice A25 p.many.toNat c26, .slice A34 p.many.toNat c35], .row (.slice Ar mn cr) 9 1 mn (rowsL ⟨some (tn, ix), mn, rs⟩), .row (.slice At mn ct) 4 1 mn (thereL ⟨some (tn, ix), mn, rs⟩), .blk b1 48 [.int .i64 p.idx, .int .i64 p.term, .int .i64 p.n, .int .i64 p.many, .slice Ab p.bytes.length cb], .blk b3 24 [.int .i64 0, .int .i64 0, .slice none 0 0, .slice none 0 0], .row (.slice A25 p.many.toNat c26) 9 1 p.many.toNat (rowsL ⟨some (p.term, p.idx), p.many.toNat, []⟩), .row (.slice A34 p.many.toNat c35) 4 1 p.many.toNat (thereL ⟨some (p.term, p.idx), p.many.toNat, []⟩)] := hH
      refine gl_done rfl ?_
      refine cut_end ([], A25, c26, A34, c35) (Sub.of_eq (by kernel_rfl)) ?_
      replace hH : Hp w w38 (off w (blksOf [.grp (rbxO yb (.slice Ar mn cr) (.slice At mn ct) ⟨some (tn, ix), mn, rs⟩)])) (blksOf [.grp (rbxO yb (.slice Ar mn cr) (.slice At mn ct) ⟨some (tn, ix), mn, rs⟩)]) [.blk yb 58 [.bool true, .int .i64 p.idx, .int .i64 p.term, .bool true, .slice A25 p.many.toNat c26, .slice A34 p.many.toNat c35], .row (.slice Ar mn cr) 9 1 mn (rowsL ⟨some (tn, ix), mn, rs⟩), .row (.slice At mn ct) 4 1 mn (thereL ⟨some (tn, ix), mn, rs⟩), .blk b1 48 [.int .i64 p.idx, .int .i64 p.term, .int .i64 p.n, .int .i64 p.many, .slice Ab p.bytes.length cb], .blk b3 24 [.int .i64 0, .int .i64 0, .slice none 0 0, .slice none 0 0], .row (.slice A25 p.many.toNat c26) 9 1 p.many.toNat (rowsL ⟨some (p.term, p.idx), p.many.toNat, []⟩), .row (.slice A34 p.many.toNat c35) 4 1 p.many.toNat (thereL ⟨some (p.term, p.idx), p.many.toNat, []⟩)] := hH
      replace hH := hH.pick [0, 5, 6, 3, 4, 1, 2] (by kernel_rfl) (os' := [.blk yb 58 [.bool true, .int .i64 p.idx, .int .i64 p.term, .bool true, .slice A25 p.many.toNat c26, .slice A34 p.many.toNat c35], .row (.slice A25 p.many.toNat c26) 9 1 p.many.toNat (rowsL ⟨some (p.term, p.idx), p.many.toNat, []⟩), .row (.slice A34 p.many.toNat c35) 4 1 p.many.toNat (thereL ⟨some (p.term, p.idx), p.many.toNat, []⟩), .blk b1 48 [.int .i64 p.idx, .int .i64 p.term, .int .i64 p.n, .int .i64 p.many, .slice Ab p.bytes.length cb], .blk b3 24 [.int .i64 0, .int .i64 0, .slice none 0 0, .slice none 0 0], .row (.slice Ar mn cr) 9 1 mn (rowsL ⟨some (tn, ix), mn, rs⟩), .row (.slice At mn ct) 4 1 mn (thereL ⟨some (tn, ix), mn, rs⟩)]) (by kernel_rfl)
      replace hH := (hH.sublist (.cons_cons _ (.cons_cons _ (.cons_cons _ (.cons_cons _ (.cons_cons _ (List.nil_sublist _)))))))
      replace hH : Hp w w38 (off w (blksOf [.grp (rbxO yb (.slice Ar mn cr) (.slice At mn ct) ⟨some (tn, ix), mn, rs⟩)])) (blksOf [.grp (rbxO yb (.slice Ar mn cr) (.slice At mn ct) ⟨some (tn, ix), mn, rs⟩)]) [.blk yb 58 [.bool true, .int .i64 p.idx, .int .i64 p.term, .bool true, .slice A25 p.many.toNat c26, .slice A34 p.many.toNat c35], .row (.slice A25 p.many.toNat c26) 9 1 p.many.toNat (rowsL ⟨some (p.term, p.idx), p.many.toNat, []⟩), .row (.slice A34 p.many.toNat c35) 4 1 p.many.toNat (thereL ⟨some (p.term, p.idx), p.many.toNat, []⟩), .blk b1 48 [.int .i64 p.idx, .int .i64 p.term, .int .i64 p.n, .int .i64 p.many, .slice Ab p.bytes.length cb], .blk b3 24 [.int .i64 0, .int .i64 0, .slice none 0 0, .slice none 0 0]] := hH
      exact ⟨base_new hrel, by simp, keys_nil _, hH⟩
    try simp only [decide_eq_false_iff_not, beq_eq_false_iff_ne, bne_eq_false_iff_eq, ne_eq, Decidable.not_not, Int.not_lt, Int.not_le, Bool.not_eq_false', beq_iff_eq, bne_iff_ne, decide_eq_true_eq] at hc12
    have hsmt := hc12
    have hsame := hcase.resolve_right (fun h => by rw [h.1] at hsmt; cases hsmt)
    refine sw_skip ?_
    refine cut_end (rs, Ar, cr, At, ct) (Sub.of_eq (by kernel_rfl)) ?_
    replace hH := (hH.sublist (.cons_cons _ (.cons_cons _ (.cons_cons _ (.cons_cons _ (.cons_cons _ (List.nil_sublist _)))))))
    replace hH : Hp w w16 (off w (blksOf [.grp (rbxO yb (.slice Ar mn cr) (.slice At mn ct) ⟨some (tn, ix), mn, rs⟩)])) (blksOf [.grp (rbxO yb (.slice Ar mn cr) (.slice At mn ct) ⟨some (tn, ix), mn, rs⟩)]) [.blk yb 58 [.bool true, .int .i64 ix, .int .i64 tn, .bool (decide (mn ≠ 0)), .slice Ar mn cr, .slice At mn ct], .row (.slice Ar mn cr) 9 1 mn (rowsL ⟨some (tn, ix), mn, rs⟩), .row (.slice At mn ct) 4 1 mn (thereL ⟨some (tn, ix), mn, rs⟩), .blk b1 48 [.int .i64 p.idx, .int .i64 p.term, .int .i64 p.n, .int .i64 p.many, .slice Ab p.bytes.length cb], .blk b3 24 [.int .i64 0, .int .i64 0, .slice none 0 0, .slice none 0 0]] := hH
    have e1 : tn = p.term := (hsm.1 hsame.1).1.symm
    have e2 : ix = p.idx := (hsm.1 hsame.1).2.symm
    have e3 : mn = p.many.toNat := by have := hsame.2; omega
    subst e1 e2 e3
    exact ⟨base_same rfl rfl hsame.2, hS.short, hK, hH.cast (by rw [show decide (p.many.toNat ≠ 0) = true from by simp; omega])⟩
  clear hH
  rintro ⟨rs2, A2, c2, A3, c3⟩ w39 ⟨hbase, hsh2, hkeys, hH⟩
  have hsh3 := withP_short hsh2 q6 nv
  have hkeys3 := keys_with hkeys (p := p) (by omega) (by omega) nv
  refine sw_keep [(0, .pointer (some ⟨yb, 0, none⟩)), (3, .pointer (some ⟨b1, 0, none⟩)), (4, .pointer (some ⟨b3, 0, none⟩))] (by kernel_rfl) ?_
  refine sw_seq ?_
  refine sw_draw (by kernel_rfl) (fun w_ => Hp w w_ (off w (blksOf [.grp (rbxO yb (.slice Ar mn cr) (.slice At mn ct) ⟨some (tn, ix), mn, rs⟩)])) (blksOf [.grp (rbxO yb (.slice Ar mn cr) (.slice At mn ct) ⟨some (tn, ix), mn, rs⟩)]) [.blk yb 58 [.bool true, .int .i64 p.idx, .int .i64 p.term, .bool true, .slice A2 p.many.toNat c2, .slice A3 p.many.toNat c3], .row (.slice A3 p.many.toNat c3) 4 1 p.many.toNat (thereL ⟨some (p.term, p.idx), p.many.toNat, rs2⟩), .blk b1 48 [.int .i64 p.idx, .int .i64 p.term, .int .i64 p.n, .int .i64 p.many, .slice Ab p.bytes.length cb], .blk b3 24 [.int .i64 0, .int .i64 0, .slice none 0 0, .slice none 0 0]]) ?_  -- R15 ref.go:155
  replace hH := hH.drew
  generalize { w39 with drawn := w39.drawn + 1 } = w40 at hH ⊢
  refine gd_pure 0 rfl (by kernel_rfl) (PQ.th PQ.body) (hH.sublist (.cons_cons _ (.cons _ (.cons_cons _ (.cons_cons _ (.cons_cons _ (List.nil_sublist _))))))) rfl rfl (.pointer (some ⟨yb, 0, none⟩)) (by kernel_rfl) ?_
  refine gd_pure 1 rfl (by kernel_rfl) (PQ.th PQ.body) (hH.sublist (.cons_cons _ (.cons _ (.cons_cons _ (.cons_cons _ (.cons_cons _ (List.nil_sublist _))))))) rfl rfl (.pointer (some ⟨yb, 0, none⟩)) (by kernel_rfl) ?_
  refine gd_pure 2 rfl (by kernel_rfl) (PQ.th PQ.body) (hH.sublist (.cons_cons _ (.cons _ (.cons_cons _ (.cons_cons _ (.cons_cons _ (List.nil_sublist _))))))) rfl rfl (.pointer (some ⟨yb, 4, none⟩)) (by kernel_rfl) ?_
  refine gd_keep [(0, .pointer (some ⟨yb, 0, none⟩)), (3, .pointer (some ⟨b1, 0, none⟩)), (4, .pointer (some ⟨b3, 0, none⟩)), (126, .pointer (some ⟨yb, 4, none⟩))] (by kernel_rfl) ?_
  refine gd_q 3 rfl (by kernel_rfl) (PQ.th PQ.body) (hH.sublist (.cons_cons _ (.cons _ (.cons_cons _ (.cons_cons _ (.cons_cons _ (List.nil_sublist _))))))) rfl rfl (fun w_ hS => (rd_loadK 0 (by kernel_rfl) hS rfl rfl rfl)) ?_
  refine gd_pure 4 rfl (by kernel_rfl) (PQ.th PQ.body) (hH.sublist (.cons_cons _ (.cons _ (.cons_cons _ (.cons_cons _ (.cons_cons _ (List.nil_sublist _))))))) rfl rfl (.pointer (some ⟨b1, 2, none⟩)) (by kernel_rfl) ?_
  refine gd_q 5 rfl (by kernel_rfl) (PQ.th PQ.body) (hH.sublist (.cons_cons _ (.cons _ (.cons_cons _ (.cons_cons _ (.cons_cons _ (List.nil_sublist _))))))) rfl rfl (fun w_ hS => (rd_loadK 2 (by kernel_rfl) hS rfl rfl rfl)) ?_
  refine gd_cv 129 (.int .i64 ((k : Nat) : Int)) (by rw [hk]) rfl ?_
  refine gd_keep [(0, .pointer (some ⟨yb, 0, none⟩)), (3, .pointer (some ⟨b1, 0, none⟩)), (4, .pointer (some ⟨b3, 0, none⟩)), (127, .slice A2 p.many.toNat c2), (129, .int .i64 ((k : Nat) : Int))] (by kernel_rfl) ?_
  refine gd_pure 6 rfl (by kernel_rfl) (PQ.th PQ.body) (hH.sublist (.cons_cons _ (.cons _ (.cons_cons _ (.cons_cons _ (.cons_cons _ (List.nil_sublist _))))))) rfl rfl (.pointer (some ⟨yb, 0, none⟩)) (by kernel_rfl) ?_
  refine gd_q 7 rfl (by kernel_rfl) (PQ.th PQ.body) (hH.sublist (.cons_cons _ (.cons _ (.cons_cons _ (.cons_cons _ (.cons_cons _ (List.nil_sublist _))))))) rfl rfl (fun w_ hS => (rd_loadKA (m := 5) 2 (by kernel_rfl) hS rfl rfl (by kernel_rfl) [.int .i64 p.idx, .int .i64 p.term, .int .i64 p.n, .int .i64 p.many, .slice Ab p.bytes.length cb] rfl rfl)) ?_
  refine gd_st 8 (by kernel_rfl) (st_call rfl rfl rfl (by kernel_rfl) rfl (RRow_ct yb _ _ ⟨some (p.term, p.idx), p.many.toNat, rs2⟩ p _ k _ (hH.blk_cell 0 rfl rfl) (hH.blk_cell 0 rfl rfl) (hH.row_reads 1 rfl) (hH.row_reads 2 rfl) (hb.mono hH.zin) hk hkm) ?_)
  rintro _ w41 ⟨rfl, hF42⟩
  replace hH := hH.call hF42; clear hF42
  refine ⟨hH.sublist (.cons_cons _ (.cons _ (.cons_cons _ (.cons_cons _ (.cons_cons _ (List.nil_sublist _)))))), ?_⟩
  refine gd_cv 132 (.string (bs (rowOf (withP rs2 p nv) p.n))) (by rw [rowOf_with, if_pos rfl]) rfl ?_
  refine gd_keep [(0, .pointer (some ⟨yb, 0, none⟩)), (3, .pointer (some ⟨b1, 0, none⟩)), (4, .pointer (some ⟨b3, 0, none⟩)), (127, .slice A2 p.many.toNat c2), (129, .int .i64 ((k : Nat) : Int)), (132, .string (bs (rowOf (withP rs2 p nv) p.n)))] (by kernel_rfl) ?_
  obtain ⟨b44, hb43, hi45⟩ := hH.row_idx 1 rfl k (by omega)
  refine gd_q 9 rfl (by kernel_rfl) (PQ.th PQ.body) (hH.sublist (.cons_cons _ (.cons _ (.cons_cons _ (.cons_cons _ (.cons_cons _ (List.nil_sublist _))))))) rfl rfl (fun w_ hS => (rd_idx (e := 9) (m := 1) (by kernel_rfl) (by kernel_rfl) rfl rfl hi45)) ?_
  refine gd_st 10 (by kernel_rfl) (st_storeO (u := .string (bs (rowOf (withP rs2 p nv) p.n))) 1 rfl rfl rfl hH rfl rfl rfl (by kernel_rfl) rfl hb43 (by simp [rowsL]; omega) ?_)
  clear hH; intro w46 hH
  replace hH := hH.row_eq 1 (l' := p.many.toNat) (xs' := rowsL ⟨some (p.term, p.idx), p.many.toNat, (withP rs2 p nv)⟩) rfl (rfl) (rowsL_set hk nv)
  refine ⟨hH.sublist (.cons_cons _ (.cons _ (.cons_cons _ (.cons_cons _ (.cons_cons _ (List.nil_sublist _)))))), ?_⟩
  refine gd_keep [(0, .pointer (some ⟨yb, 0, none⟩)), (3, .pointer (some ⟨b1, 0, none⟩)), (4, .pointer (some ⟨b3, 0, none⟩))] (by kernel_rfl) ?_
  refine gd_done (by kernel_rfl) ?_
  refine at_sub [(0, .pointer (some ⟨yb, 0, none⟩)), (3, .pointer (some ⟨b1, 0, none⟩)), (4, .pointer (some ⟨b3, 0, none⟩))] (Sub.of_eq (by kernel_rfl)) ?_
  refine sw_next ?_
  refine sw_seq ?_
  refine sw_draw (by kernel_rfl) (fun w_ => Hp w w_ (off w (blksOf [.grp (rbxO yb (.slice Ar mn cr) (.slice At mn ct) ⟨some (tn, ix), mn, rs⟩)])) (blksOf [.grp (rbxO yb (.slice Ar mn cr) (.slice At mn ct) ⟨some (tn, ix), mn, rs⟩)]) [.blk yb 58 [.bool true, .int .i64 p.idx, .int .i64 p.term, .bool true, .slice A2 p.many.toNat c2, .slice A3 p.many.toNat c3], .row (.slice A2 p.many.toNat c2) 9 1 p.many.toNat (rowsL ⟨some (p.term, p.idx), p.many.toNat, (withP rs2 p nv)⟩), .blk b1 48 [.int .i64 p.idx, .int .i64 p.term, .int .i64 p.n, .int .i64 p.many, .slice Ab p.bytes.length cb], .blk b3 24 [.int .i64 0, .int .i64 0, .slice none 0 0, .slice none 0 0]]) ?_  -- R16 ref.go:156
  replace hH := hH.drew
  generalize { w46 with drawn := w46.drawn + 1 } = w47 at hH ⊢
  refine gd_pure 0 rfl (by kernel_rfl) (PQ.th PQ.body) (hH.sublist (.cons_cons _ (.cons_cons _ (.cons _ (.cons_cons _ (.cons_cons _ (List.nil_sublist _))))))) rfl rfl (.pointer (some ⟨yb, 0, none⟩)) (by kernel_rfl) ?_
  refine gd_pure 1 rfl (by kernel_rfl) (PQ.th PQ.body) (hH.sublist (.cons_cons _ (.cons_cons _ (.cons _ (.cons_cons _ (.cons_cons _ (List.nil_sublist _))))))) rfl rfl (.pointer (some ⟨yb, 0, none⟩)) (by kernel_rfl) ?_
  refine gd_pure 2 rfl (by kernel_rfl) (PQ.th PQ.body) (hH.sublist (.cons_cons _ (.cons_cons _ (.cons _ (.cons_cons _ (.cons_cons _ (List.nil_sublist _))))))) rfl rfl (.pointer (some ⟨yb, 5, none⟩)) (by kernel_rfl) ?_
  refine gd_keep [(0, .pointer (some ⟨yb, 0, none⟩)), (3, .pointer (some ⟨b1, 0, none⟩)), (4, .pointer (some ⟨b3, 0, none⟩)), (136, .pointer (some ⟨yb, 5, none⟩))] (by kernel_rfl) ?_
  refine gd_q 3 rfl (by kernel_rfl) (PQ.th PQ.body) (hH.sublist (.cons_cons _ (.cons_cons _ (.cons _ (.cons_cons _ (.cons_cons _ (List.nil_sublist _))))))) rfl rfl (fun w_ hS => (rd_loadK 0 (by kernel_rfl) hS rfl rfl rfl)) ?_
  refine gd_pure 4 rfl (by kernel_rfl) (PQ.th PQ.body) (hH.sublist (.cons_cons _ (.cons_cons _ (.cons _ (.cons_cons _ (.cons_cons _ (List.nil_sublist _))))))) rfl rfl (.pointer (some ⟨b1, 2, none⟩)) (by kernel_rfl) ?_
  refine gd_q 5 rfl (by kernel_rfl) (PQ.th PQ.body) (hH.sublist (.cons_cons _ (.cons_cons _ (.cons _ (.cons_cons _ (.cons_cons _ (List.nil_sublist _))))))) rfl rfl (fun w_ hS => (rd_loadK 2 (by kernel_rfl) hS rfl rfl rfl)) ?_
  refine gd_cv 139 (.int .i64 ((k : Nat) : Int)) (by rw [hk]) rfl ?_
  refine gd_keep [(0, .pointer (some ⟨yb, 0, none⟩)), (3, .pointer (some ⟨b1, 0, none⟩)), (4, .pointer (some ⟨b3, 0, none⟩)), (137, .slice A3 p.many.toNat c3), (139, .int .i64 ((k : Nat) : Int))] (by kernel_rfl) ?_
  obtain ⟨b49, hb48, hi50⟩ := hH.row_idx 2 rfl k (by omega)
  refine gd_q 6 rfl (by kernel_rfl) (PQ.th PQ.body) (hH.sublist (.cons_cons _ (.cons_cons _ (.cons _ (.cons_cons _ (.cons_cons _ (List.nil_sublist _))))))) rfl rfl (fun w_ hS => (rd_idx (e := 4) (m := 1) (by kernel_rfl) (by kernel_rfl) rfl rfl hi50)) ?_
  refine gd_st 7 (by kernel_rfl) (st_storeO (u := .bool true) 2 rfl rfl rfl hH rfl rfl rfl (by kernel_rfl) rfl hb48 (by simp [thereL]; omega) ?_)
  clear hH; intro w51 hH
  replace hH := hH.row_eq 2 (l' := p.many.toNat) (xs' := thereL ⟨some (p.term, p.idx), p.many.toNat, (withP rs2 p nv)⟩) rfl (rfl) (thereL_set hk nv)
  refine ⟨hH.sublist (.cons_cons _ (.cons_cons _ (.cons _ (.cons_cons _ (.cons_cons _ (List.nil_sublist _)))))), ?_⟩
  refine gd_keep [(0, .pointer (some ⟨yb, 0, none⟩)), (3, .pointer (some ⟨b1, 0, none⟩)), (4, .pointer (some ⟨b3, 0, none⟩))] (by kernel_rfl) ?_
  refine gd_done (by kernel_rfl) ?_
  refine at_sub [(0, .pointer (some ⟨yb, 0, none⟩)), (3, .pointer (some ⟨b1, 0, none⟩)), (4, .pointer (some ⟨b3, 0, none⟩))] (Sub.of_eq (by kernel_rfl)) ?_
  refine sw_next ?_
  refine sw_seq ?_
  refine sw_region ?_  -- R17 ref.go:157
  refine gl_ops 1 [(0, .pointer (some ⟨yb, 0, none⟩)), (3, .pointer (some ⟨b1, 0, none⟩)), (4, .pointer (some ⟨b3, 0, none⟩)), (10, .string (bs []))] (by kernel_rfl) ?_
  refine gl_done rfl ?_
  refine sw_next ?_
  refine sw_seq ?_
  refine sw_seq ?_
  refine sw_region ?_  -- R18 ref.go:158
  refine gl_ops 1 [(0, .pointer (some ⟨yb, 0, none⟩)), (3, .pointer (some ⟨b1, 0, none⟩)), (4, .pointer (some ⟨b3, 0, none⟩)), (10, .string (bs [])), (11, .int .i64 0)] (by kernel_rfl) ?_
  refine gl_done rfl ?_
  refine sw_next ?_
  refine sw_block ?_
  refine sw_loop (γ := Nat) (fun i => [(0, .pointer (some ⟨yb, 0, none⟩)), (3, .pointer (some ⟨b1, 0, none⟩)), (4, .pointer (some ⟨b3, 0, none⟩)), (10, .string (bs (joinI (withP rs2 p nv) i))), (11, .int .i64 ((i : Nat) : Int))]) (fun i w_ => (i ≤ p.many.toNat) ∧ (∀ j : Nat, j < i → has (withP rs2 p nv) (j : Int) = true) ∧ Hp w w_ (off w (blksOf [.grp (rbxO yb (.slice Ar mn cr) (.slice At mn ct) ⟨some (tn, ix), mn, rs⟩)])) (blksOf [.grp (rbxO yb (.slice Ar mn cr) (.slice At mn ct) ⟨some (tn, ix), mn, rs⟩)]) [.blk yb 58 [.bool true, .int .i64 p.idx, .int .i64 p.term, .bool true, .slice A2 p.many.toNat c2, .slice A3 p.many.toNat c3], .row (.slice A2 p.many.toNat c2) 9 1 p.many.toNat (rowsL ⟨some (p.term, p.idx), p.many.toNat, (withP rs2 p nv)⟩), .row (.slice A3 p.many.toNat c3) 4 1 p.many.toNat (thereL ⟨some (p.term, p.idx), p.many.toNat, (withP rs2 p nv)⟩), .blk b1 48 [.int .i64 p.idx, .int .i64 p.term, .int .i64 p.n, .int .i64 p.many, .slice Ab p.bytes.length cb], .blk b3 24 [.int .i64 0, .int .i64 0, .slice none 0 0, .slice none 0 0]]) (fun i => p.many.toNat - i) (0) (Sub.of_eq (by kernel_rfl)) ?_ ?_
  · exact ⟨by omega, fun j hj => absurd hj (by omega), hH⟩
  clear hH
  rintro i w52 ⟨hi, hall, hH⟩
  refine sw_keep [(0, .pointer (some ⟨yb, 0, none⟩)), (3, .pointer (some ⟨b1, 0, none⟩)), (4, .pointer (some ⟨b3, 0, none⟩)), (10, .string (bs (joinI (withP rs2 p nv) i))), (11, .int .i64 ((i : Nat) : Int))] (by kernel_rfl) ?_
  refine sw_seq ?_
  refine sw_seq ?_
  refine sw_region ?_  -- R19 ref.go:158
  refine gl_ops 4 [(0, .pointer (some ⟨yb, 0, none⟩)), (3, .pointer (some ⟨b1, 0, none⟩)), (4, .pointer (some ⟨b3, 0, none⟩)), (10, .string (bs (joinI (withP rs2 p nv) i))), (11, .int .i64 ((i : Nat) : Int)), (141, .int .i64 ((i : Nat) : Int)), (144, .pointer (some ⟨yb, 4, none⟩))] (by kernel_rfl) ?_
  refine gl_q rfl rfl rfl (rd_loadK 0 (by kernel_rfl) hH rfl rfl rfl) ?_
  refine gl_q rfl rfl rfl (rd_len (e := 9) (by kernel_rfl) rfl) ?_
  refine gl_ops 1 [(0, .pointer (some ⟨yb, 0, none⟩)), (3, .pointer (some ⟨b1, 0, none⟩)), (4, .pointer (some ⟨b3, 0, none⟩)), (10, .string (bs (joinI (withP rs2 p nv) i))), (11, .int .i64 ((i : Nat) : Int)), (147, .bool (decide (((i : Nat) : Int) < ((p.many.toNat : Nat) : Int))))] (by kernel_rfl) ?_
  refine gl_done rfl ?_
  refine sw_next ?_
  refine sw_cond rfl rfl (fun hc13 => ?_) (fun hc13 => ?_)
  ·
    try simp only [decide_eq_true_eq, beq_iff_eq, bne_iff_ne, ne_eq, Bool.not_eq_true', beq_eq_false_iff_ne, bne_eq_false_iff_eq, decide_eq_false_iff_not, Int.not_lt, Int.not_le] at hc13
    refine sw_skip ?_
    refine sw_next ?_
    refine sw_seq ?_
    refine sw_block ?_
    refine sw_seq ?_
    refine sw_seq ?_
    refine sw_region ?_  -- R21 ref.go:159
    refine gl_ops 3 [(0, .pointer (some ⟨yb, 0, none⟩)), (3, .pointer (some ⟨b1, 0, none⟩)), (4, .pointer (some ⟨b3, 0, none⟩)), (10, .string (bs (joinI (withP rs2 p nv) i))), (11, .int .i64 ((i : Nat) : Int)), (152, .pointer (some ⟨yb, 5, none⟩))] (by kernel_rfl) ?_
    refine gl_q rfl rfl rfl (rd_loadK 0 (by kernel_rfl) hH rfl rfl rfl) ?_
    obtain ⟨b54, hb53, hi55⟩ := hH.row_idx 2 rfl i (by omega)
    refine gl_ops 1 [(0, .pointer (some ⟨yb, 0, none⟩)), (3, .pointer (some ⟨b1, 0, none⟩)), (4, .pointer (some ⟨b3, 0, none⟩)), (10, .string (bs (joinI (withP rs2 p nv) i))), (11, .int .i64 ((i : Nat) : Int)), (153, .slice A3 p.many.toNat c3), (154, .int .i64 ((i : Nat) : Int))] (by kernel_rfl) ?_
    refine gl_q rfl rfl rfl (rd_idx (e := 4) (m := 1) (by kernel_rfl) (by kernel_rfl) rfl rfl hi55) ?_
    refine gl_q rfl rfl rfl (rd_loadO 2 (by kernel_rfl) hH rfl rfl hb53 (thereL_at ⟨some (p.term, p.idx), p.many.toNat, (withP rs2 p nv)⟩ i (show i < p.many.toNat by omega))) ?_
    refine gl_ops 1 [(0, .pointer (some ⟨yb, 0, none⟩)), (3, .pointer (some ⟨b1, 0, none⟩)), (4, .pointer (some ⟨b3, 0, none⟩)), (10, .string (bs (joinI (withP rs2 p nv) i))), (11, .int .i64 ((i : Nat) : Int)), (157, .bool (!(has (withP rs2 p nv) ((i : Nat) : Int))))] (by kernel_rfl) ?_
    refine gl_done rfl ?_
    refine sw_next ?_
    refine sw_cond rfl rfl (fun hc14 => ?_) (fun hc14 => ?_)
    ·
      try simp only [decide_eq_true_eq, beq_iff_eq, bne_iff_ne, ne_eq, Bool.not_eq_true', beq_eq_false_iff_ne, bne_eq_false_iff_eq, decide_eq_false_iff_not, Int.not_lt, Int.not_le] at hc14
      have hnot := hc14
      refine sw_seq ?_
      refine sw_region ?_  -- R22 ref.go:160
      refine gl_ops 1 [(4, .pointer (some ⟨b3, 0, none⟩)), (158, .agg #[.int .i64 0, .int .i64 0, .slice none 0 0, .slice none 0 0])] (by kernel_rfl) ?_
      refine gl_st (st_storeKA (vs := [.int .i64 0, .int .i64 0, .slice none 0 0, .slice none 0 0]) 4 rfl rfl rfl hH rfl rfl (by kernel_rfl) (by kernel_rfl) rfl (by simp) [.int .i64 0, .int .i64 0, .slice none 0 0, .slice none 0 0] rfl ?_)
      clear hH; intro w56 hH
      refine gl_ops 2 [(4, .pointer (some ⟨b3, 0, none⟩)), (5, .bool false), (6, .int .i64 0)] (by kernel_rfl) ?_
      refine gl_done rfl ?_
      refine sw_next ?_
      refine sw_ret ?_
      refine thR ?_
      refine bkR ?_
      refine thR ?_
      refine thR ?_
      refine bkR ?_
      refine thR ?_
      refine retC3 rfl (RS.cellA hH 4 (by kernel_rfl) rfl rfl (by kernel_rfl) [.int .i64 0, .int .i64 0, .slice none 0 0, .slice none 0 0] rfl rfl) (RS.tmp rfl) (RS.tmp rfl) ?_
      replace hH := (hH.sublist (.cons_cons _ (.cons_cons _ (.cons_cons _ (List.nil_sublist _)))))
      replace hH : Hp w w56 (off w (blksOf [.grp (rbxO yb (.slice Ar mn cr) (.slice At mn ct) ⟨some (tn, ix), mn, rs⟩)])) (blksOf [.grp (rbxO yb (.slice Ar mn cr) (.slice At mn ct) ⟨some (tn, ix), mn, rs⟩)]) [.blk yb 58 [.bool true, .int .i64 p.idx, .int .i64 p.term, .bool true, .slice A2 p.many.toNat c2, .slice A3 p.many.toNat c3], .row (.slice A2 p.many.toNat c2) 9 1 p.many.toNat (rowsL ⟨some (p.term, p.idx), p.many.toNat, (withP rs2 p nv)⟩), .row (.slice A3 p.many.toNat c3) 4 1 p.many.toNat (thereL ⟨some (p.term, p.idx), p.many.toNat, (withP rs2 p nv)⟩)] := hH
      replace hH := hH.cast (os' := [.blk yb 58 [.bool true, .int .i64 p.idx, .int .i64 p.term, .bool (decide (p.many.toNat ≠ 0)), .slice A2 p.many.toNat c2, .slice A3 p.many.toNat c3], .row (.slice A2 p.many.toNat c2) 9 1 p.many.toNat (rowsL ⟨some (p.term, p.idx), p.many.toNat, (withP rs2 p nv)⟩), .row (.slice A3 p.many.toNat c3) 4 1 p.many.toNat (thereL ⟨some (p.term, p.idx), p.many.toNat, (withP rs2 p nv)⟩)]) (by rw [show decide (p.many.toNat ≠ 0) = true from by simp; omega])
      replace hH : Hp w w56 (off w (blksOf [.grp (rbxO yb (.slice Ar mn cr) (.slice At mn ct) ⟨some (tn, ix), mn, rs⟩)])) (blksOf [.grp (rbxO yb (.slice Ar mn cr) (.slice At mn ct) ⟨some (tn, ix), mn, rs⟩)]) (rbxO yb (.slice A2 p.many.toNat c2) (.slice A3 p.many.toNat c3) ⟨some (p.term, p.idx), p.many.toNat, (withP rs2 p nv)⟩ ++ []) := hH
      have hr := putI_few (S := ⟨some (tn, ix), mn, rs⟩) nv hc1 hbase (not_has hkeys3 (by omega) hnot)
      refine ⟨.slice A2 p.many.toNat c2, .slice A3 p.many.toNat c3, .slice none 0 0, .slice none 0 0, ?_⟩
      rw [hr]
      exact ⟨rfl, (((hH.close).nilRow 5 1).nilRow 5 1).turned⟩
    try simp only [decide_eq_false_iff_not, beq_eq_false_iff_ne, bne_eq_false_iff_eq, ne_eq, Decidable.not_not, Int.not_lt, Int.not_le, Bool.not_eq_false', beq_iff_eq, bne_iff_ne, decide_eq_true_eq] at hc14
    have hthere := hc14
    refine sw_skip ?_
    refine sw_next ?_
    refine sw_region ?_  -- R23 ref.go:162
    refine gl_ops 4 [(0, .pointer (some ⟨yb, 0, none⟩)), (3, .pointer (some ⟨b1, 0, none⟩)), (4, .pointer (some ⟨b3, 0, none⟩)), (11, .int .i64 ((i : Nat) : Int)), (159, .string (bs (joinI (withP rs2 p nv) i))), (162, .pointer (some ⟨yb, 4, none⟩))] (by kernel_rfl) ?_
    refine gl_q rfl rfl rfl (rd_loadK 0 (by kernel_rfl) hH rfl rfl rfl) ?_
    obtain ⟨b58, hb57, hi59⟩ := hH.row_idx 1 rfl i (by omega)
    refine gl_ops 1 [(0, .pointer (some ⟨yb, 0, none⟩)), (3, .pointer (some ⟨b1, 0, none⟩)), (4, .pointer (some ⟨b3, 0, none⟩)), (11, .int .i64 ((i : Nat) : Int)), (159, .string (bs (joinI (withP rs2 p nv) i))), (163, .slice A2 p.many.toNat c2), (164, .int .i64 ((i : Nat) : Int))] (by kernel_rfl) ?_
    refine gl_q rfl rfl rfl (rd_idx (e := 9) (m := 1) (by kernel_rfl) (by kernel_rfl) rfl rfl hi59) ?_
    refine gl_q rfl rfl rfl (rd_loadO 1 (by kernel_rfl) hH rfl rfl hb57 (rowsL_at ⟨some (p.term, p.idx), p.many.toNat, (withP rs2 p nv)⟩ i (show i < p.many.toNat by omega))) ?_
    refine gl_q rfl rfl rfl (rd_sadd (by kernel_rfl) rfl rfl (by have h1 := joinI_le hsh3 i; have h2 := rowOf_le hsh3 (i : Int); show _ + (rowOf (withP rs2 p nv) (i : Int)).length ≤ _; omega)) ?_
    refine gl_cv 167 (.string (bs (joinI (withP rs2 p nv) (i + 1)))) (by rw [joinI_snoc]) rfl ?_
    refine gl_ops 1 [(0, .pointer (some ⟨yb, 0, none⟩)), (3, .pointer (some ⟨b1, 0, none⟩)), (4, .pointer (some ⟨b3, 0, none⟩)), (10, .string (bs (joinI (withP rs2 p nv) (i + 1)))), (11, .int .i64 ((i : Nat) : Int))] (by kernel_rfl) ?_
    refine gl_done rfl ?_
    refine bkN ?_
    refine sw_next ?_
    refine sw_region ?_  -- R20 ref.go:158
    refine gl_ops 2 [(0, .pointer (some ⟨yb, 0, none⟩)), (3, .pointer (some ⟨b1, 0, none⟩)), (4, .pointer (some ⟨b3, 0, none⟩)), (10, .string (bs (joinI (withP rs2 p nv) (i + 1)))), (149, .int .i64 (IntKind.i64.wrap (((i : Nat) : Int) + 1)))] (by kernel_rfl) ?_
    refine gl_cv 149 (.int .i64 ((i + 1 : Nat) : Int)) (cv_i64 (by omega)) rfl ?_
    refine gl_ops 1 [(0, .pointer (some ⟨yb, 0, none⟩)), (3, .pointer (some ⟨b1, 0, none⟩)), (4, .pointer (some ⟨b3, 0, none⟩)), (10, .string (bs (joinI (withP rs2 p nv) (i + 1)))), (11, .int .i64 ((i + 1 : Nat) : Int))] (by kernel_rfl) ?_
    refine gl_done rfl ?_
    refine rnd_end (g := (i)) (i + 1) (by kernel_rfl) ?_ ?_
    · exact ⟨by omega, fun j hj => (Nat.lt_succ_iff_lt_or_eq.1 hj).elim (hall j) (fun e => e ▸ hthere), hH⟩
    · show p.many.toNat - (i + 1) < p.many.toNat - i; omega
  try simp only [decide_eq_false_iff_not, beq_eq_false_iff_ne, bne_eq_false_iff_eq, ne_eq, Decidable.not_not, Int.not_lt, Int.not_le, Bool.not_eq_false', beq_iff_eq, bne_iff_ne, decide_eq_true_eq] at hc13
  have hie : i = p.many.toNat := by omega
  have hj := joinI_le hsh3 i
  refine sw_exit ?_
  refine thX ?_
  refine thX ?_
  refine bkH ?_
  refine sw_next ?_
  refine sw_seq ?_
  refine sw_region ?_  -- R24 ref.go:164
  refine gl_ops 3 [(0, .pointer (some ⟨yb, 0, none⟩)), (3, .pointer (some ⟨b1, 0, none⟩)), (4, .pointer (some ⟨b3, 0, none⟩)), (10, .string (bs (joinI (withP rs2 p nv) i))), (170, .pointer (some ⟨yb, 3, none⟩))] (by kernel_rfl) ?_
  refine gl_st (st_storeK (v := .bool false) 0 rfl rfl rfl hH rfl rfl rfl (by kernel_rfl) rfl (by simp) ?_)
  clear hH; intro w60 hH
  refine gl_done rfl ?_
  refine sw_next ?_
  refine sw_seq ?_
  refine sw_region ?_  -- R25 ref.go:165
  refine gl_ops 3 [(0, .pointer (some ⟨yb, 0, none⟩)), (3, .pointer (some ⟨b1, 0, none⟩)), (4, .pointer (some ⟨b3, 0, none⟩)), (10, .string (bs (joinI (withP rs2 p nv) i))), (173, .pointer (some ⟨yb, 4, none⟩))] (by kernel_rfl) ?_
  refine gl_st (st_storeK (v := .slice none 0 0) 0 rfl rfl rfl hH rfl rfl rfl (by kernel_rfl) rfl (by simp) ?_)
  clear hH; intro w61 hH
  refine gl_done rfl ?_
  refine sw_next ?_
  refine sw_seq ?_
  refine sw_region ?_  -- R26 ref.go:166
  refine gl_ops 3 [(3, .pointer (some ⟨b1, 0, none⟩)), (4, .pointer (some ⟨b3, 0, none⟩)), (10, .string (bs (joinI (withP rs2 p nv) i))), (176, .pointer (some ⟨yb, 5, none⟩))] (by kernel_rfl) ?_
  refine gl_st (st_storeK (v := .slice none 0 0) 0 rfl rfl rfl hH rfl rfl rfl (by kernel_rfl) rfl (by simp) ?_)
  clear hH; intro w62 hH
  refine gl_done rfl ?_
  refine sw_next ?_
  refine sw_seq ?_
  refine sw_region ?_  -- R27 ref.go:167
  refine gl_ops 1 [(3, .pointer (some ⟨b1, 0, none⟩)), (4, .pointer (some ⟨b3, 0, none⟩)), (178, .string (bs (joinI (withP rs2 p nv) i)))] (by kernel_rfl) ?_
  refine gl_st (st_strB (e := 5) rfl rfl rfl (by kernel_rfl) (by kernel_rfl) (by kernel_rfl) hH rfl (by unfold maxLen; omega) ?_)
  clear hH; intro b63 c64 w65 hl66 hm67 hH
  refine gl_st (st_call rfl rfl rfl (by kernel_rfl) rfl (RRead_ct _ (joinI (withP rs2 p nv) i) _ (mkd_row hH 5 rfl (bv_length _) hl66 hm67) (by first | omega | (simp <;> omega))) ?_)
  rintro _ w72 ⟨v68, v69, rfl, hF73⟩
  replace hH := hH.call hF73; clear hF73
  obtain ⟨A74, c75, rfl, hl76, hm77⟩ := hH.row_form 6 rfl
  obtain ⟨A78, c79, rfl, hl80, hm81⟩ := hH.row_form 7 rfl
  replace hH : Hp w w72 (off w (blksOf [.grp (rbxO yb (.slice Ar mn cr) (.slice At mn ct) ⟨some (tn, ix), mn, rs⟩)])) (blksOf [.grp (rbxO yb (.slice Ar mn cr) (.slice At mn ct) ⟨some (tn, ix), mn, rs⟩)]) [.blk yb 58 [.bool true, .int .i64 p.idx, .int .i64 p.term, .bool false, .slice none 0 0, .slice none 0 0], .row (.slice A2 p.many.toNat c2) 9 1 p.many.toNat (rowsL ⟨some (p.term, p.idx), p.many.toNat, (withP rs2 p nv)⟩), .row (.slice A3 p.many.toNat c3) 4 1 p.many.toNat (thereL ⟨some (p.term, p.idx), p.many.toNat, (withP rs2 p nv)⟩), .blk b1 48 [.int .i64 p.idx, .int .i64 p.term, .int .i64 p.n, .int .i64 p.many, .slice Ab p.bytes.length cb], .blk b3 24 [.int .i64 0, .int .i64 0, .slice none 0 0, .slice none 0 0], .mkd b63 5 (bv (joinI (withP rs2 p nv) i)), .row (.slice A74 (((readV (joinI (withP rs2 p nv) i)).1.conf).length) c75) 5 1 (((readV (joinI (withP rs2 p nv) i)).1.conf).length) (bv ((readV (joinI (withP rs2 p nv) i)).1.conf)), .row (.slice A78 (((readV (joinI (withP rs2 p nv) i)).1.data).length) c79) 5 1 (((readV (joinI (withP rs2 p nv) i)).1.data).length) (bv ((readV (joinI (withP rs2 p nv) i)).1.data))] := hH
  refine gl_ops 3 [(3, .pointer (some ⟨b1, 0, none⟩)), (4, .pointer (some ⟨b3, 0, none⟩)), (181, .agg #[.int .i64 ((readV (joinI (withP rs2 p nv) i)).1.idx), .int .i64 ((readV (joinI (withP rs2 p nv) i)).1.term), .slice A74 (((readV (joinI (withP rs2 p nv) i)).1.conf).length) c75, .slice A78 (((readV (joinI (withP rs2 p nv) i)).1.data).length) c79]), (182, .int .i64 (((readV (joinI (withP rs2 p nv) i)).2 : Nat) : Int))] (by kernel_rfl) ?_
  refine gl_st (st_allocH rfl rfl rfl (cs := [.int .i64 0, .int .i64 0, .slice none 0 0, .slice none 0 0]) (by kernel_rfl) hH ?_)
  clear hH; intro b82 w83 hH
  replace hH : Hp w w83 (off w (blksOf [.grp (rbxO yb (.slice Ar mn cr) (.slice At mn ct) ⟨some (tn, ix), mn, rs⟩)])) (blksOf [.grp (rbxO yb (.slice Ar mn cr) (.slice At mn ct) ⟨some (tn, ix), mn, rs⟩)]) [.blk yb 58 [.bool true, .int .i64 p.idx, .int .i64 p.term, .bool false, .slice none 0 0, .slice none 0 0], .row (.slice A2 p.many.toNat c2) 9 1 p.many.toNat (rowsL ⟨some (p.term, p.idx), p.many.toNat, (withP rs2 p nv)⟩), .row (.slice A3 p.many.toNat c3) 4 1 p.many.toNat (thereL ⟨some (p.term, p.idx), p.many.toNat, (withP rs2 p nv)⟩), .blk b1 48 [.int .i64 p.idx, .int .i64 p.term, .int .i64 p.n, .int .i64 p.many, .slice Ab p.bytes.length cb], .blk b3 24 [.int .i64 0, .int .i64 0, .slice none 0 0, .slice none 0 0], .mkd b63 5 (bv (joinI (withP rs2 p nv) i)), .row (.slice A74 (((readV (joinI (withP rs2 p nv) i)).1.conf).length) c75) 5 1 (((readV (joinI (withP rs2 p nv) i)).1.conf).length) (bv ((readV (joinI (withP rs2 p nv) i)).1.conf)), .row (.slice A78 (((readV (joinI (withP rs2 p nv) i)).1.data).length) c79) 5 1 (((readV (joinI (withP rs2 p nv) i)).1.data).length) (bv ((readV (joinI (withP rs2 p nv) i)).1.data)), .blk b82 24 [.int .i64 0, .int .i64 0, .slice none 0 0, .slice none 0 0]] := hH
  refine gl_st (st_storeKA (vs := [.int .i64 ((readV (joinI (withP rs2 p nv) i)).1.idx), .int .i64 ((readV (joinI (withP rs2 p nv) i)).1.term), .slice A74 (((readV (joinI (withP rs2 p nv) i)).1.conf).length) c75, .slice A78 (((readV (joinI (withP rs2 p nv) i)).1.data).length) c79]) 8 rfl rfl rfl hH rfl rfl (by kernel_rfl) (by kernel_rfl) rfl (by simp) [.int .i64 ((readV (joinI (withP rs2 p nv) i)).1.idx), .int .i64 ((readV (joinI (withP rs2 p nv) i)).1.term), .slice A74 (((readV (joinI (withP rs2 p nv) i)).1.conf).length) c75, .slice A78 (((readV (joinI (withP rs2 p nv) i)).1.data).length) c79] rfl ?_)
  clear hH; intro w84 hH
  replace hH : Hp w w84 (off w (blksOf [.grp (rbxO yb (.slice Ar mn cr) (.slice At mn ct) ⟨some (tn, ix), mn, rs⟩)])) (blksOf [.grp (rbxO yb (.slice Ar mn cr) (.slice At mn ct) ⟨some (tn, ix), mn, rs⟩)]) [.blk yb 58 [.bool true, .int .i64 p.idx, .int .i64 p.term, .bool false, .slice none 0 0, .slice none 0 0], .row (.slice A2 p.many.toNat c2) 9 1 p.many.toNat (rowsL ⟨some (p.term, p.idx), p.many.toNat, (withP rs2 p nv)⟩), .row (.slice A3 p.many.toNat c3) 4 1 p.many.toNat (thereL ⟨some (p.term, p.idx), p.many.toNat, (withP rs2 p nv)⟩), .blk b1 48 [.int .i64 p.idx, .int .i64 p.term, .int .i64 p.n, .int .i64 p.many, .slice Ab p.bytes.length cb], .blk b3 24 [.int .i64 0, .int .i64 0, .slice none 0 0, .slice none 0 0], .mkd b63 5 (bv (joinI (withP rs2 p nv) i)), .row (.slice A74 (((readV (joinI (withP rs2 p nv) i)).1.conf).length) c75) 5 1 (((readV (joinI (withP rs2 p nv) i)).1.conf).length) (bv ((readV (joinI (withP rs2 p nv) i)).1.conf)), .row (.slice A78 (((readV (joinI (withP rs2 p nv) i)).1.data).length) c79) 5 1 (((readV (joinI (withP rs2 p nv) i)).1.data).length) (bv ((readV (joinI (withP rs2 p nv) i)).1.data)), .blk b82 24 [.int .i64 ((readV (joinI (withP rs2 p nv) i)).1.idx), .int .i64 ((readV (joinI (withP rs2 p nv) i)).1.term), .slice A74 (((readV (joinI (withP rs2 p nv) i)).1.conf).length) c75, .slice A78 (((readV (joinI (withP rs2 p nv) i)).1.data).length) c79]] := hH
  refine gl_ops 1 [(3, .pointer (some ⟨b1, 0, none⟩)), (4, .pointer (some ⟨b3, 0, none⟩)), (12, .pointer (some ⟨b82, 0, none⟩)), (13, .int .i64 (((readV (joinI (withP rs2 p nv) i)).2 : Nat) : Int))] (by kernel_rfl) ?_
  refine gl_done rfl ?_
  refine sw_next ?_
  refine sw_seq ?_
  refine sw_seq ?_
  refine sw_region ?_  -- R28 ref.go:168
  refine gl_ops 3 [(3, .pointer (some ⟨b1, 0, none⟩)), (4, .pointer (some ⟨b3, 0, none⟩)), (12, .pointer (some ⟨b82, 0, none⟩)), (185, .bool ((((readV (joinI (withP rs2 p nv) i)).2 : Nat) : Int) != (0 : Int)))] (by kernel_rfl) ?_
  refine gl_split 185 (b := (((readV (joinI (withP rs2 p nv) i)).2 : Nat) : Int) != (0 : Int)) rfl (fun hg15 => ?_) (fun hg15 => ?_)
  ·
    try simp only [decide_eq_true_eq, beq_iff_eq, bne_iff_ne, ne_eq, Bool.not_eq_true', beq_eq_false_iff_ne, bne_eq_false_iff_eq, decide_eq_false_iff_not, Int.not_lt, Int.not_le] at hg15
    have hrd : (readV (joinI (withP rs2 p nv) i)).2 ≠ 0 := by omega
    refine gl_ops 13 [(4, .pointer (some ⟨b3, 0, none⟩)), (12, .pointer (some ⟨b82, 0, none⟩)), (198, .bool true)] (by kernel_rfl) ?_
    refine gl_done rfl ?_
    refine sw_next ?_
    refine sw_true rfl rfl ?_
    refine sw_seq ?_
    refine sw_region ?_  -- R29 ref.go:169
    refine gl_ops 1 [(4, .pointer (some ⟨b3, 0, none⟩)), (199, .agg #[.int .i64 0, .int .i64 0, .slice none 0 0, .slice none 0 0])] (by kernel_rfl) ?_
    refine gl_st (st_storeKA (vs := [.int .i64 0, .int .i64 0, .slice none 0 0, .slice none 0 0]) 4 rfl rfl rfl hH rfl rfl (by kernel_rfl) (by kernel_rfl) rfl (by simp) [.int .i64 0, .int .i64 0, .slice none 0 0, .slice none 0 0] rfl ?_)
    clear hH; intro w85 hH
    replace hH : Hp w w85 (off w (blksOf [.grp (rbxO yb (.slice Ar mn cr) (.slice At mn ct) ⟨some (tn, ix), mn, rs⟩)])) (blksOf [.grp (rbxO yb (.slice Ar mn cr) (.slice At mn ct) ⟨some (tn, ix), mn, rs⟩)]) [.blk yb 58 [.bool true, .int .i64 p.idx, .int .i64 p.term, .bool false, .slice none 0 0, .slice none 0 0], .row (.slice A2 p.many.toNat c2) 9 1 p.many.toNat (rowsL ⟨some (p.term, p.idx), p.many.toNat, (withP rs2 p nv)⟩), .row (.slice A3 p.many.toNat c3) 4 1 p.many.toNat (thereL ⟨some (p.term, p.idx), p.many.toNat, (withP rs2 p nv)⟩), .blk b1 48 [.int .i64 p.idx, .int .i64 p.term, .int .i64 p.n, .int .i64 p.many, .slice Ab p.bytes.length cb], .blk b3 24 [.int .i64 0, .int .i64 0, .slice none 0 0, .slice none 0 0], .mkd b63 5 (bv (joinI (withP rs2 p nv) i)), .row (.slice A74 (((readV (joinI (withP rs2 p nv) i)).1.conf).length) c75) 5 1 (((readV (joinI (withP rs2 p nv) i)).1.conf).length) (bv ((readV (joinI (withP rs2 p nv) i)).1.conf)), .row (.slice A78 (((readV (joinI (withP rs2 p nv) i)).1.data).length) c79) 5 1 (((readV (joinI (withP rs2 p nv) i)).1.data).length) (bv ((readV (joinI (withP rs2 p nv) i)).1.data)), .blk b82 24 [.int .i64 ((readV (joinI (withP rs2 p nv) i)).1.idx), .int .i64 ((readV (joinI (withP rs2 p nv) i)).1.term), .slice A74 (((readV (joinI (withP rs2 p nv) i)).1.conf).length) c75, .slice A78 (((readV (joinI (withP rs2 p nv) i)).1.data).length) c79]] := hH
    refine gl_ops 2 [(4, .pointer (some ⟨b3, 0, none⟩)), (5, .bool false), (6, .int .i64 91)] (by kernel_rfl) ?_
    refine gl_done rfl ?_
    refine sw_next ?_
    refine sw_ret ?_
    refine thR ?_
    refine retC3 rfl (RS.cellA hH 4 (by kernel_rfl) rfl rfl (by kernel_rfl) [.int .i64 0, .int .i64 0, .slice none 0 0, .slice none 0 0] rfl rfl) (RS.tmp rfl) (RS.tmp rfl) ?_
    replace hH := (hH.sublist (.cons_cons _ (List.nil_sublist _)))
    replace hH : Hp w w85 (off w (blksOf [.grp (rbxO yb (.slice Ar mn cr) (.slice At mn ct) ⟨some (tn, ix), mn, rs⟩)])) (blksOf [.grp (rbxO yb (.slice Ar mn cr) (.slice At mn ct) ⟨some (tn, ix), mn, rs⟩)]) [.blk yb 58 [.bool true, .int .i64 p.idx, .int .i64 p.term, .bool false, .slice none 0 0, .slice none 0 0]] := hH
    replace hH := (hH.nilRow 9 1).nilRow 4 1
    replace hH := (hH.sublist (.cons_cons _ (.cons_cons _ (.cons_cons _ (List.nil_sublist _)))))
    replace hH : Hp w w85 (off w (blksOf [.grp (rbxO yb (.slice Ar mn cr) (.slice At mn ct) ⟨some (tn, ix), mn, rs⟩)])) (blksOf [.grp (rbxO yb (.slice Ar mn cr) (.slice At mn ct) ⟨some (tn, ix), mn, rs⟩)]) [.blk yb 58 [.bool true, .int .i64 p.idx, .int .i64 p.term, .bool false, .slice none 0 0, .slice none 0 0], .row (.slice none 0 0) 9 1 0 [], .row (.slice none 0 0) 4 1 0 []] := hH
    replace hH : Hp w w85 (off w (blksOf [.grp (rbxO yb (.slice Ar mn cr) (.slice At mn ct) ⟨some (tn, ix), mn, rs⟩)])) (blksOf [.grp (rbxO yb (.slice Ar mn cr) (.slice At mn ct) ⟨some (tn, ix), mn, rs⟩)]) (rbxO yb (.slice none 0 0) (.slice none 0 0) ⟨some (p.term, p.idx), 0, []⟩ ++ []) := hH
    have hr := (show putI ⟨some (tn, ix), mn, rs⟩ p nv = (⟨some (p.term, p.idx), 0, []⟩, Snp.none, false, 91) from by rw [putI_end nv hc1 hbase (by rw [← hie]; exact all_has hall), ← hie]; rw [endI_bad1 hrd])
    refine ⟨.slice none 0 0, .slice none 0 0, .slice none 0 0, .slice none 0 0, ?_⟩
    rw [hr]
    exact ⟨rfl, (((hH.close).nilRow 5 1).nilRow 5 1).turned⟩
  try simp only [decide_eq_false_iff_not, beq_eq_false_iff_ne, bne_eq_false_iff_eq, ne_eq, Decidable.not_not, Int.not_lt, Int.not_le, Bool.not_eq_false', beq_iff_eq, bne_iff_ne, decide_eq_true_eq] at hg15
  have hrd : (readV (joinI (withP rs2 p nv) i)).2 = 0 := by omega
  refine gl_ops 1 [(3, .pointer (some ⟨b1, 0, none⟩)), (4, .pointer (some ⟨b3, 0, none⟩)), (12, .pointer (some ⟨b82, 0, none⟩)), (185, .bool false), (186, .pointer (some ⟨b82, 0, none⟩))] (by kernel_rfl) ?_
  refine gl_q rfl rfl rfl (rd_loadK 8 (by kernel_rfl) hH rfl rfl rfl) ?_
  refine gl_ops 1 [(3, .pointer (some ⟨b1, 0, none⟩)), (4, .pointer (some ⟨b3, 0, none⟩)), (12, .pointer (some ⟨b82, 0, none⟩)), (185, .bool false), (187, .int .i64 ((readV (joinI (withP rs2 p nv) i)).1.idx)), (188, .pointer (some ⟨b1, 0, none⟩))] (by kernel_rfl) ?_
  refine gl_q rfl rfl rfl (rd_loadK 3 (by kernel_rfl) hH rfl rfl rfl) ?_
  refine gl_ops 3 [(3, .pointer (some ⟨b1, 0, none⟩)), (4, .pointer (some ⟨b3, 0, none⟩)), (12, .pointer (some ⟨b82, 0, none⟩)), (192, .bool (((readV (joinI (withP rs2 p nv) i)).1.idx) != (p.idx : Int)))] (by kernel_rfl) ?_
  refine gl_split 192 (b := ((readV (joinI (withP rs2 p nv) i)).1.idx) != (p.idx : Int)) rfl (fun hg17 => ?_) (fun hg17 => ?_)
  ·
    try simp only [decide_eq_true_eq, beq_iff_eq, bne_iff_ne, ne_eq, Bool.not_eq_true', beq_eq_false_iff_ne, bne_eq_false_iff_eq, decide_eq_false_iff_not, Int.not_lt, Int.not_le] at hg17
    refine gl_ops 6 [(4, .pointer (some ⟨b3, 0, none⟩)), (12, .pointer (some ⟨b82, 0, none⟩)), (198, .bool true)] (by kernel_rfl) ?_
    refine gl_done rfl ?_
    refine sw_next ?_
    refine sw_true rfl rfl ?_
    refine sw_seq ?_
    refine sw_region ?_  -- R29 ref.go:169
    refine gl_ops 1 [(4, .pointer (some ⟨b3, 0, none⟩)), (199, .agg #[.int .i64 0, .int .i64 0, .slice none 0 0, .slice none 0 0])] (by kernel_rfl) ?_
    refine gl_st (st_storeKA (vs := [.int .i64 0, .int .i64 0, .slice none 0 0, .slice none 0 0]) 4 rfl rfl rfl hH rfl rfl (by kernel_rfl) (by kernel_rfl) rfl (by simp) [.int .i64 0, .int .i64 0, .slice none 0 0, .slice none 0 0] rfl ?_)
    clear hH; intro w86 hH
    replace hH : Hp w w86 (off w (blksOf [.grp (rbxO yb (.slice Ar mn cr) (.slice At mn ct) ⟨some (tn, ix), mn, rs⟩)])) (blksOf [.grp (rbxO yb (.slice Ar mn cr) (.slice At mn ct) ⟨some (tn, ix), mn, rs⟩)]) [.blk yb 58 [.bool true, .int .i64 p.idx, .int .i64 p.term, .bool false, .slice none 0 0, .slice none 0 0], .row (.slice A2 p.many.toNat c2) 9 1 p.many.toNat (rowsL ⟨some (p.term, p.idx), p.many.toNat, (withP rs2 p nv)⟩), .row (.slice A3 p.many.toNat c3) 4 1 p.many.toNat (thereL ⟨some (p.term, p.idx), p.many.toNat, (withP rs2 p nv)⟩), .blk b1 48 [.int .i64 p.idx, .int .i64 p.term, .int .i64 p.n, .int .i64 p.many, .slice Ab p.bytes.length cb], .blk b3 24 [.int .i64 0, .int .i64 0, .slice none 0 0, .slice none 0 0], .mkd b63 5 (bv (joinI (withP rs2 p nv) i)), .row (.slice A74 (((readV (joinI (withP rs2 p nv) i)).1.conf).length) c75) 5 1 (((readV (joinI (withP rs2 p nv) i)).1.conf).length) (bv ((readV (joinI (withP rs2 p nv) i)).1.conf)), .row (.slice A78 (((readV (joinI (withP rs2 p nv) i)).1.data).length) c79) 5 1 (((readV (joinI (withP rs2 p nv) i)).1.data).length) (bv ((readV (joinI (withP rs2 p nv) i)).1.data)), .blk b82 24 [.int .i64 ((readV (joinI (withP rs2 p nv) i)).1.idx), .int .i64 ((readV (joinI (withP rs2 p nv) i)).1.term), .slice A74 (((readV (joinI (withP rs2 p nv) i)).1.conf).length) c75, .slice A78 (((readV (joinI (withP rs2 p nv) i)).1.data).length) c79]] := hH
    refine gl_ops 2 [(4, .pointer (some ⟨b3, 0, none⟩)), (5, .bool false), (6, .int .i64 91)] (by kernel_rfl) ?_
    refine gl_done rfl ?_
    refine sw_next ?_
    refine sw_ret ?_
    refine thR ?_
    refine retC3 rfl (RS.cellA hH 4 (by kernel_rfl) rfl rfl (by kernel_rfl) [.int .i64 0, .int .i64 0, .slice none 0 0, .slice none 0 0] rfl rfl) (RS.tmp rfl) (RS.tmp rfl) ?_
    replace hH := (hH.sublist (.cons_cons _ (List.nil_sublist _)))
    replace hH : Hp w w86 (off w (blksOf [.grp (rbxO yb (.slice Ar mn cr) (.slice At mn ct) ⟨some (tn, ix), mn, rs⟩)])) (blksOf [.grp (rbxO yb (.slice Ar mn cr) (.slice At mn ct) ⟨some (tn, ix), mn, rs⟩)]) [.blk yb 58 [.bool true, .int .i64 p.idx, .int .i64 p.term, .bool false, .slice none 0 0, .slice none 0 0]] := hH
    replace hH := (hH.nilRow 9 1).nilRow 4 1
    replace hH := (hH.sublist (.cons_cons _ (.cons_cons _ (.cons_cons _ (List.nil_sublist _)))))
    replace hH : Hp w w86 (off w (blksOf [.grp (rbxO yb (.slice Ar mn cr) (.slice At mn ct) ⟨some (tn, ix), mn, rs⟩)])) (blksOf [.grp (rbxO yb (.slice Ar mn cr) (.slice At mn ct) ⟨some (tn, ix), mn, rs⟩)]) [.blk yb 58 [.bool true, .int .i64 p.idx, .int .i64 p.term, .bool false, .slice none 0 0, .slice none 0 0], .row (.slice none 0 0) 9 1 0 [], .row (.slice none 0 0) 4 1 0 []] := hH
    replace hH : Hp w w86 (off w (blksOf [.grp (rbxO yb (.slice Ar mn cr) (.slice At mn ct) ⟨some (tn, ix), mn, rs⟩)])) (blksOf [.grp (rbxO yb (.slice Ar mn cr) (.slice At mn ct) ⟨some (tn, ix), mn, rs⟩)]) (rbxO yb (.slice none 0 0) (.slice none 0 0) ⟨some (p.term, p.idx), 0, []⟩ ++ []) := hH
    have hr := (show putI ⟨some (tn, ix), mn, rs⟩ p nv = (⟨some (p.term, p.idx), 0, []⟩, Snp.none, false, 91) from by rw [putI_end nv hc1 hbase (by rw [← hie]; exact all_has hall), ← hie]; rw [endI_bad2 hrd (fun h => by omega)])
    refine ⟨.slice none 0 0, .slice none 0 0, .slice none 0 0, .slice none 0 0, ?_⟩
    rw [hr]
    exact ⟨rfl, (((hH.close).nilRow 5 1).nilRow 5 1).turned⟩
  try simp only [decide_eq_false_iff_not, beq_eq_false_iff_ne, bne_eq_false_iff_eq, ne_eq, Decidable.not_not, Int.not_lt, Int.not_le, Bool.not_eq_false', beq_iff_eq, bne_iff_ne, decide_eq_true_eq] at hg17
  refine gl_ops 1 [(3, .pointer (some ⟨b1, 0, none⟩)), (4, .pointer (some ⟨b3, 0, none⟩)), (12, .pointer (some ⟨b82, 0, none⟩)), (192, .bool false), (193, .pointer (some ⟨b82, 1, none⟩))] (by kernel_rfl) ?_
  refine gl_q rfl rfl rfl (rd_loadK 8 (by kernel_rfl) hH rfl rfl rfl) ?_
  refine gl_ops 1 [(4, .pointer (some ⟨b3, 0, none⟩)), (12, .pointer (some ⟨b82, 0, none⟩)), (192, .bool false), (194, .int .i64 ((readV (joinI (withP rs2 p nv) i)).1.term)), (195, .pointer (some ⟨b1, 1, none⟩))] (by kernel_rfl) ?_
  refine gl_q rfl rfl rfl (rd_loadK 3 (by kernel_rfl) hH rfl rfl rfl) ?_
  refine gl_ops 2 [(4, .pointer (some ⟨b3, 0, none⟩)), (12, .pointer (some ⟨b82, 0, none⟩)), (198, .bool (((readV (joinI (withP rs2 p nv) i)).1.term) != (p.term : Int)))] (by kernel_rfl) ?_
  refine gl_done rfl ?_
  refine sw_next ?_
  refine sw_cond rfl rfl (fun hc19 => ?_) (fun hc19 => ?_)
  ·
    try simp only [decide_eq_true_eq, beq_iff_eq, bne_iff_ne, ne_eq, Bool.not_eq_true', beq_eq_false_iff_ne, bne_eq_false_iff_eq, decide_eq_false_iff_not, Int.not_lt, Int.not_le] at hc19
    refine sw_seq ?_
    refine sw_region ?_  -- R29 ref.go:169
    refine gl_ops 1 [(4, .pointer (some ⟨b3, 0, none⟩)), (199, .agg #[.int .i64 0, .int .i64 0, .slice none 0 0, .slice none 0 0])] (by kernel_rfl) ?_
    refine gl_st (st_storeKA (vs := [.int .i64 0, .int .i64 0, .slice none 0 0, .slice none 0 0]) 4 rfl rfl rfl hH rfl rfl (by kernel_rfl) (by kernel_rfl) rfl (by simp) [.int .i64 0, .int .i64 0, .slice none 0 0, .slice none 0 0] rfl ?_)
    clear hH; intro w87 hH
    replace hH : Hp w w87 (off w (blksOf [.grp (rbxO yb (.slice Ar mn cr) (.slice At mn ct) ⟨some (tn, ix), mn, rs⟩)])) (blksOf [.grp (rbxO yb (.slice Ar mn cr) (.slice At mn ct) ⟨some (tn, ix), mn, rs⟩)]) [.blk yb 58 [.bool true, .int .i64 p.idx, .int .i64 p.term, .bool false, .slice none 0 0, .slice none 0 0], .row (.slice A2 p.many.toNat c2) 9 1 p.many.toNat (rowsL ⟨some (p.term, p.idx), p.many.toNat, (withP rs2 p nv)⟩), .row (.slice A3 p.many.toNat c3) 4 1 p.many.toNat (thereL ⟨some (p.term, p.idx), p.many.toNat, (withP rs2 p nv)⟩), .blk b1 48 [.int .i64 p.idx, .int .i64 p.term, .int .i64 p.n, .int .i64 p.many, .slice Ab p.bytes.length cb], .blk b3 24 [.int .i64 0, .int .i64 0, .slice none 0 0, .slice none 0 0], .mkd b63 5 (bv (joinI (withP rs2 p nv) i)), .row (.slice A74 (((readV (joinI (withP rs2 p nv) i)).1.conf).length) c75) 5 1 (((readV (joinI (withP rs2 p nv) i)).1.conf).length) (bv ((readV (joinI (withP rs2 p nv) i)).1.conf)), .row (.slice A78 (((readV (joinI (withP rs2 p nv) i)).1.data).length) c79) 5 1 (((readV (joinI (withP rs2 p nv) i)).1.data).length) (bv ((readV (joinI (withP rs2 p nv) i)).1.data)), .blk b82 24 [.int .i64 ((readV (joinI (withP rs2 p nv) i)).1.idx), .int .i64 ((readV (joinI (withP rs2 p nv) i)).1.term), .slice A74 (((readV (joinI (withP rs2 p nv) i)).1.conf).length) c75, .slice A78 (((readV (joinI (withP rs2 p nv) i)).1.data).length) c79]] := hH
    refine gl_ops 2 [(4, .pointer (some ⟨b3, 0, none⟩)), (5, .bool false), (6, .int .i64 91)] (by kernel_rfl) ?_
    refine gl_done rfl ?_
    refine sw_next ?_
    refine sw_ret ?_
    refine thR ?_
    refine retC3 rfl (RS.cellA hH 4 (by kernel_rfl) rfl rfl (by kernel_rfl) [.int .i64 0, .int .i64 0, .slice none 0 0, .slice none 0 0] rfl rfl) (RS.tmp rfl) (RS.tmp rfl) ?_
    replace hH := (hH.sublist (.cons_cons _ (List.nil_sublist _)))
    replace hH : Hp w w87 (off w (blksOf [.grp (rbxO yb (.slice Ar mn cr) (.slice At mn ct) ⟨some (tn, ix), mn, rs⟩)])) (blksOf [.grp (rbxO yb (.slice Ar mn cr) (.slice At mn ct) ⟨some (tn, ix), mn, rs⟩)]) [.blk yb 58 [.bool true, .int .i64 p.idx, .int .i64 p.term, .bool false, .slice none 0 0, .slice none 0 0]] := hH
    replace hH := (hH.nilRow 9 1).nilRow 4 1
    replace hH := (hH.sublist (.cons_cons _ (.cons_cons _ (.cons_cons _ (List.nil_sublist _)))))
    replace hH : Hp w w87 (off w (blksOf [.grp (rbxO yb (.slice Ar mn cr) (.slice At mn ct) ⟨some (tn, ix), mn, rs⟩)])) (blksOf [.grp (rbxO yb (.slice Ar mn cr) (.slice At mn ct) ⟨some (tn, ix), mn, rs⟩)]) [.blk yb 58 [.bool true, .int .i64 p.idx, .int .i64 p.term, .bool false, .slice none 0 0, .slice none 0 0], .row (.slice none 0 0) 9 1 0 [], .row (.slice none 0 0) 4 1 0 []] := hH
    replace hH : Hp w w87 (off w (blksOf [.grp (rbxO yb (.slice Ar mn cr) (.slice At mn ct) ⟨some (tn, ix), mn, rs⟩)])) (blksOf [.grp (rbxO yb (.slice Ar mn cr) (.slice At mn ct) ⟨some (tn, ix), mn, rs⟩)]) (rbxO yb (.slice none 0 0) (.slice none 0 0) ⟨some (p.term, p.idx), 0, []⟩ ++ []) := hH
    have hr := (show putI ⟨some (tn, ix), mn, rs⟩ p nv = (⟨some (p.term, p.idx), 0, []⟩, Snp.none, false, 91) from by rw [putI_end nv hc1 hbase (by rw [← hie]; exact all_has hall), ← hie]; rw [endI_bad2 hrd (fun h => by omega)])
    refine ⟨.slice none 0 0, .slice none 0 0, .slice none 0 0, .slice none 0 0, ?_⟩
    rw [hr]
    exact ⟨rfl, (((hH.close).nilRow 5 1).nilRow 5 1).turned⟩
  try simp only [decide_eq_false_iff_not, beq_eq_false_iff_ne, bne_eq_false_iff_eq, ne_eq, Decidable.not_not, Int.not_lt, Int.not_le, Bool.not_eq_false', beq_iff_eq, bne_iff_ne, decide_eq_true_eq] at hc19
  refine sw_skip ?_
  refine sw_next ?_
  refine sw_seq ?_
  refine sw_region ?_  -- R30 ref.go:171
  refine gl_q rfl rfl rfl (rd_loadKA (m := 4) 8 (by kernel_rfl) hH rfl rfl (by kernel_rfl) [.int .i64 ((readV (joinI (withP rs2 p nv) i)).1.idx), .int .i64 ((readV (joinI (withP rs2 p nv) i)).1.term), .slice A74 (((readV (joinI (withP rs2 p nv) i)).1.conf).length) c75, .slice A78 (((readV (joinI (withP rs2 p nv) i)).1.data).length) c79] rfl rfl) ?_
  refine gl_st (st_storeKA (vs := [.int .i64 ((readV (joinI (withP rs2 p nv) i)).1.idx), .int .i64 ((readV (joinI (withP rs2 p nv) i)).1.term), .slice A74 (((readV (joinI (withP rs2 p nv) i)).1.conf).length) c75, .slice A78 (((readV (joinI (withP rs2 p nv) i)).1.data).length) c79]) 4 rfl rfl rfl hH rfl rfl (by kernel_rfl) (by kernel_rfl) rfl (by simp) [.int .i64 ((readV (joinI (withP rs2 p nv) i)).1.idx), .int .i64 ((readV (joinI (withP rs2 p nv) i)).1.term), .slice A74 (((readV (joinI (withP rs2 p nv) i)).1.conf).length) c75, .slice A78 (((readV (joinI (withP rs2 p nv) i)).1.data).length) c79] rfl ?_)
  clear hH; intro w88 hH
  replace hH : Hp w w88 (off w (blksOf [.grp (rbxO yb (.slice Ar mn cr) (.slice At mn ct) ⟨some (tn, ix), mn, rs⟩)])) (blksOf [.grp (rbxO yb (.slice Ar mn cr) (.slice At mn ct) ⟨some (tn, ix), mn, rs⟩)]) [.blk yb 58 [.bool true, .int .i64 p.idx, .int .i64 p.term, .bool false, .slice none 0 0, .slice none 0 0], .row (.slice A2 p.many.toNat c2) 9 1 p.many.toNat (rowsL ⟨some (p.term, p.idx), p.many.toNat, (withP rs2 p nv)⟩), .row (.slice A3 p.many.toNat c3) 4 1 p.many.toNat (thereL ⟨some (p.term, p.idx), p.many.toNat, (withP rs2 p nv)⟩), .blk b1 48 [.int .i64 p.idx, .int .i64 p.term, .int .i64 p.n, .int .i64 p.many, .slice Ab p.bytes.length cb], .blk b3 24 [.int .i64 ((readV (joinI (withP rs2 p nv) i)).1.idx), .int .i64 ((readV (joinI (withP rs2 p nv) i)).1.term), .slice A74 (((readV (joinI (withP rs2 p nv) i)).1.conf).length) c75, .slice A78 (((readV (joinI (withP rs2 p nv) i)).1.data).length) c79], .mkd b63 5 (bv (joinI (withP rs2 p nv) i)), .row (.slice A74 (((readV (joinI (withP rs2 p nv) i)).1.conf).length) c75) 5 1 (((readV (joinI (withP rs2 p nv) i)).1.conf).length) (bv ((readV (joinI (withP rs2 p nv) i)).1.conf)), .row (.slice A78 (((readV (joinI (withP rs2 p nv) i)).1.data).length) c79) 5 1 (((readV (joinI (withP rs2 p nv) i)).1.data).length) (bv ((readV (joinI (withP rs2 p nv) i)).1.data)), .blk b82 24 [.int .i64 ((readV (joinI (withP rs2 p nv) i)).1.idx), .int .i64 ((readV (joinI (withP rs2 p nv) i)).1.term), .slice A74 (((readV (joinI (withP rs2 p nv) i)).1.conf).length) c75, .slice A78 (((readV (joinI (withP rs2 p nv) i)).1.data).length) c79]] := hH
  refine gl_ops 2 [(4, .pointer (some ⟨b3, 0, none⟩)), (5, .bool true), (6, .int .i64 0)] (by kernel_rfl) ?_
  refine gl_done rfl ?_
  refine sw_next ?_
  refine sw_ret ?_
  refine retC3 rfl (RS.cellA hH 4 (by kernel_rfl) rfl rfl (by kernel_rfl) [.int .i64 ((readV (joinI (withP rs2 p nv) i)).1.idx), .int .i64 ((readV (joinI (withP rs2 p nv) i)).1.term), .slice A74 (((readV (joinI (withP rs2 p nv) i)).1.conf).length) c75, .slice A78 (((readV (joinI (withP rs2 p nv) i)).1.data).length) c79] rfl rfl) (RS.tmp rfl) (RS.tmp rfl) ?_
  replace hH := (hH.sublist (.cons_cons _ (.cons _ (.cons _ (.cons _ (.cons _ (.cons _ (.cons_cons _ (.cons_cons _ (List.nil_sublist _))))))))))
  replace hH : Hp w w88 (off w (blksOf [.grp (rbxO yb (.slice Ar mn cr) (.slice At mn ct) ⟨some (tn, ix), mn, rs⟩)])) (blksOf [.grp (rbxO yb (.slice Ar mn cr) (.slice At mn ct) ⟨some (tn, ix), mn, rs⟩)]) [.blk yb 58 [.bool true, .int .i64 p.idx, .int .i64 p.term, .bool false, .slice none 0 0, .slice none 0 0], .row (.slice A74 (((readV (joinI (withP rs2 p nv) i)).1.conf).length) c75) 5 1 (((readV (joinI (withP rs2 p nv) i)).1.conf).length) (bv ((readV (joinI (withP rs2 p nv) i)).1.conf)), .row (.slice A78 (((readV (joinI (withP rs2 p nv) i)).1.data).length) c79) 5 1 (((readV (joinI (withP rs2 p nv) i)).1.data).length) (bv ((readV (joinI (withP rs2 p nv) i)).1.data))] := hH
  replace hH := (hH.nilRow 9 1).nilRow 4 1
  replace hH : Hp w w88 (off w (blksOf [.grp (rbxO yb (.slice Ar mn cr) (.slice At mn ct) ⟨some (tn, ix), mn, rs⟩)])) (blksOf [.grp (rbxO yb (.slice Ar mn cr) (.slice At mn ct) ⟨some (tn, ix), mn, rs⟩)]) [.blk yb 58 [.bool true, .int .i64 p.idx, .int .i64 p.term, .bool false, .slice none 0 0, .slice none 0 0], .row (.slice A74 (((readV (joinI (withP rs2 p nv) i)).1.conf).length) c75) 5 1 (((readV (joinI (withP rs2 p nv) i)).1.conf).length) (bv ((readV (joinI (withP rs2 p nv) i)).1.conf)), .row (.slice A78 (((readV (joinI (withP rs2 p nv) i)).1.data).length) c79) 5 1 (((readV (joinI (withP rs2 p nv) i)).1.data).length) (bv ((readV (joinI (withP rs2 p nv) i)).1.data)), .row (.slice none 0 0) 9 1 0 [], .row (.slice none 0 0) 4 1 0 []] := hH
  replace hH := hH.pick [0, 3, 4, 1, 2] (by kernel_rfl) (os' := [.blk yb 58 [.bool true, .int .i64 p.idx, .int .i64 p.term, .bool false, .slice none 0 0, .slice none 0 0], .row (.slice none 0 0) 9 1 0 [], .row (.slice none 0 0) 4 1 0 [], .row (.slice A74 (((readV (joinI (withP rs2 p nv) i)).1.conf).length) c75) 5 1 (((readV (joinI (withP rs2 p nv) i)).1.conf).length) (bv ((readV (joinI (withP rs2 p nv) i)).1.conf)), .row (.slice A78 (((readV (joinI (withP rs2 p nv) i)).1.data).length) c79) 5 1 (((readV (joinI (withP rs2 p nv) i)).1.data).length) (bv ((readV (joinI (withP rs2 p nv) i)).1.data))]) (by kernel_rfl)
  replace hH := (hH.sublist (.cons_cons _ (.cons_cons _ (.cons_cons _ (.cons_cons _ (.cons_cons _ (List.nil_sublist _)))))))
  replace hH : Hp w w88 (off w (blksOf [.grp (rbxO yb (.slice Ar mn cr) (.slice At mn ct) ⟨some (tn, ix), mn, rs⟩)])) (blksOf [.grp (rbxO yb (.slice Ar mn cr) (.slice At mn ct) ⟨some (tn, ix), mn, rs⟩)]) [.blk yb 58 [.bool true, .int .i64 p.idx, .int .i64 p.term, .bool false, .slice none 0 0, .slice none 0 0], .row (.slice none 0 0) 9 1 0 [], .row (.slice none 0 0) 4 1 0 [], .row (.slice A74 (((readV (joinI (withP rs2 p nv) i)).1.conf).length) c75) 5 1 (((readV (joinI (withP rs2 p nv) i)).1.conf).length) (bv ((readV (joinI (withP rs2 p nv) i)).1.conf)), .row (.slice A78 (((readV (joinI (withP rs2 p nv) i)).1.data).length) c79) 5 1 (((readV (joinI (withP rs2 p nv) i)).1.data).length) (bv ((readV (joinI (withP rs2 p nv) i)).1.data))] := hH
  replace hH : Hp w w88 (off w (blksOf [.grp (rbxO yb (.slice Ar mn cr) (.slice At mn ct) ⟨some (tn, ix), mn, rs⟩)])) (blksOf [.grp (rbxO yb (.slice Ar mn cr) (.slice At mn ct) ⟨some (tn, ix), mn, rs⟩)]) (rbxO yb (.slice none 0 0) (.slice none 0 0) ⟨some (p.term, p.idx), 0, []⟩ ++ [.row (.slice A74 (((readV (joinI (withP rs2 p nv) i)).1.conf).length) c75) 5 1 (((readV (joinI (withP rs2 p nv) i)).1.conf).length) (bv ((readV (joinI (withP rs2 p nv) i)).1.conf)), .row (.slice A78 (((readV (joinI (withP rs2 p nv) i)).1.data).length) c79) 5 1 (((readV (joinI (withP rs2 p nv) i)).1.data).length) (bv ((readV (joinI (withP rs2 p nv) i)).1.data))]) := hH
  have hr := (show putI ⟨some (tn, ix), mn, rs⟩ p nv = (⟨some (p.term, p.idx), 0, []⟩, (readV (joinI (withP rs2 p nv) i)).1, true, 0) from by rw [putI_end nv hc1 hbase (by rw [← hie]; exact all_has hall), ← hie]; rw [endI_ok hrd ⟨by omega, by omega⟩])
  refine ⟨.slice none 0 0, .slice none 0 0, .slice A74 (((readV (joinI (withP rs2 p nv) i)).1.conf).length) c75, .slice A78 (((readV (joinI (withP rs2 p nv) i)).1.data).length) c79, ?_⟩
  rw [hr]
  exact ⟨rfl, (hH.close).turned⟩
theorem RPutN_ct (yb : Nat) (rv tv : Value)  (p : Prt) (vb : Value) (nv : Value) (w : World) (hM : Mine w [.grp (rbxO yb rv tv ⟨none, 0, []⟩)]) (hb : RB (off w (blksOf [.grp (rbxO yb rv tv ⟨none, 0, []⟩)])) vb p.bytes) (hp : p.I64) :
    Fun Tryd.prog 26 [.pointer (some ⟨yb, 0, none⟩), .agg #[.int .i64 p.idx, .int .i64 p.term, .int .i64 p.n, .int .i64 p.many, vb]] w fun v w' => ∃ rv' tv' v1 v2,
      v = .tuple #[.agg #[.int .i64 (putI ⟨none, 0, []⟩ p nv).2.1.idx, .int .i64 (putI ⟨none, 0, []⟩ p nv).2.1.term, v1, v2], .bool (putI ⟨none, 0, []⟩ p nv).2.2.1, .int .i64 (((putI ⟨none, 0, []⟩ p nv).2.2.2 : Nat) : Int)] ∧
      Turn w w' [.grp (rbxO yb rv tv ⟨none, 0, []⟩)] [.grp (rbxO yb rv' tv' (putI ⟨none, 0, []⟩ p nv).1), .row v1 5 1 (putI ⟨none, 0, []⟩ p nv).2.1.conf.length (bv (putI ⟨none, 0, []⟩ p nv).2.1.conf), .row v2 5 1 (putI ⟨none, 0, []⟩ p nv).2.1.data.length (bv (putI ⟨none, 0, []⟩ p nv).2.1.data)] := by
  obtain ⟨Ar, cr, At, ct, rfl, rfl⟩ := rbx_forms hM
  obtain ⟨Ab, cb, rfl, hb1, hb2⟩ := hb.row.form
  have hp9 := hp
  obtain ⟨hp1, hp2, hp3, hp4⟩ := hp9
  refine fun_of_sw Tryd.func26 rfl 201 rfl rfl ?_
  have hH : Hp w w (off w (blksOf [.grp (rbxO yb (.slice Ar 0 cr) (.slice At 0 ct) ⟨none, 0, []⟩)])) (blksOf [.grp (rbxO yb (.slice Ar 0 cr) (.slice At 0 ct) ⟨none, 0, []⟩)]) (rbxO yb (.slice Ar 0 cr) (.slice At 0 ct) ⟨none, 0, []⟩ ++ []) := (Hp.start_mine hM).open_
  replace hH : Hp w w (off w (blksOf [.grp (rbxO yb (.slice Ar 0 cr) (.slice At 0 ct) ⟨none, 0, []⟩)])) (blksOf [.grp (rbxO yb (.slice Ar 0 cr) (.slice At 0 ct) ⟨none, 0, []⟩)]) [.blk yb 58 [.bool false, .int .i64 0, .int .i64 0, .bool false, .slice Ar 0 cr, .slice At 0 ct], .row (.slice Ar 0 cr) 9 1 0 (rowsL ⟨none, 0, []⟩), .row (.slice At 0 ct) 4 1 0 (thereL ⟨none, 0, []⟩)] := hH
  refine sw_seq ?_
  refine sw_region ?_  -- R0 ref.go:137
  refine gl_st (st_boxH (cs := [.int .i64 p.idx, .int .i64 p.term, .int .i64 p.n, .int .i64 p.many, .slice Ab p.bytes.length cb]) rfl rfl rfl rfl hH ?_)
  clear hH; intro b1 w2 hH
  refine gl_st (st_allocH rfl rfl rfl (cs := [.int .i64 0, .int .i64 0, .slice none 0 0, .slice none 0 0]) (by kernel_rfl) hH ?_)
  clear hH; intro b3 w4 hH
  refine gl_ops 2 [(0, .pointer (some ⟨yb, 0, none⟩)), (3, .pointer (some ⟨b1, 0, none⟩)), (4, .pointer (some ⟨b3, 0, none⟩))] (by kernel_rfl) ?_
  refine gl_done rfl ?_
  refine sw_next ?_
  refine sw_seq ?_
  refine sw_region ?_  -- R1 ref.go:138
  refine gl_q rfl rfl rfl (rd_loadKA (m := 5) 3 (by kernel_rfl) hH rfl rfl (by kernel_rfl) [.int .i64 p.idx, .int .i64 p.term, .int .i64 p.n, .int .i64 p.many, .slice Ab p.bytes.length cb] rfl rfl) ?_
  refine gl_st (st_call rfl rfl rfl (by kernel_rfl) rfl (RMay_ct p _ _ (hb.mono hH.zin) hp) ?_)
  rintro _ w5 ⟨rfl, hF6⟩
  replace hH := hH.call hF6; clear hF6
  refine gl_ops 1 [(0, .pointer (some ⟨yb, 0, none⟩)), (3, .pointer (some ⟨b1, 0, none⟩)), (4, .pointer (some ⟨b3, 0, none⟩)), (7, .bool (mayP p))] (by kernel_rfl) ?_
  refine gl_done rfl ?_
  refine sw_next ?_
  refine sw_seq ?_
  refine sw_seq ?_
  refine sw_region ?_  -- R2 ref.go:139
  refine gl_ops 2 [(0, .pointer (some ⟨yb, 0, none⟩)), (3, .pointer (some ⟨b1, 0, none⟩)), (4, .pointer (some ⟨b3, 0, none⟩)), (17, .bool (!(mayP p)))] (by kernel_rfl) ?_
  refine gl_done rfl ?_
  refine sw_next ?_
  refine sw_cond rfl rfl (fun hc1 => ?_) (fun hc1 => ?_)
  ·
    try simp only [decide_eq_true_eq, beq_iff_eq, bne_iff_ne, ne_eq, Bool.not_eq_true', beq_eq_false_iff_ne, bne_eq_false_iff_eq, decide_eq_false_iff_not, Int.not_lt, Int.not_le] at hc1
    refine sw_seq ?_
    refine sw_region ?_  -- R3 ref.go:140
    refine gl_ops 1 [(4, .pointer (some ⟨b3, 0, none⟩)), (18, .agg #[.int .i64 0, .int .i64 0, .slice none 0 0, .slice none 0 0])] (by kernel_rfl) ?_
    refine gl_st (st_storeKA (vs := [.int .i64 0, .int .i64 0, .slice none 0 0, .slice none 0 0]) 4 rfl rfl rfl hH rfl rfl (by kernel_rfl) (by kernel_rfl) rfl (by simp) [.int .i64 0, .int .i64 0, .slice none 0 0, .slice none 0 0] rfl ?_)
    clear hH; intro w7 hH
    refine gl_ops 2 [(4, .pointer (some ⟨b3, 0, none⟩)), (5, .bool false), (6, .int .i64 1)] (by kernel_rfl) ?_
    refine gl_done rfl ?_
    refine sw_next ?_
    refine sw_ret ?_
    refine thR ?_
    refine retC3 rfl (RS.cellA hH 4 (by kernel_rfl) rfl rfl (by kernel_rfl) [.int .i64 0, .int .i64 0, .slice none 0 0, .slice none 0 0] rfl rfl) (RS.tmp rfl) (RS.tmp rfl) ?_
    replace hH := (hH.sublist (.cons_cons _ (.cons_cons _ (.cons_cons _ (List.nil_sublist _)))))
    replace hH : Hp w w7 (off w (blksOf [.grp (rbxO yb (.slice Ar 0 cr) (.slice At 0 ct) ⟨none, 0, []⟩)])) (blksOf [.grp (rbxO yb (.slice Ar 0 cr) (.slice At 0 ct) ⟨none, 0, []⟩)]) [.blk yb 58 [.bool false, .int .i64 0, .int .i64 0, .bool false, .slice Ar 0 cr, .slice At 0 ct], .row (.slice Ar 0 cr) 9 1 0 (rowsL ⟨none, 0, []⟩), .row (.slice At 0 ct) 4 1 0 (thereL ⟨none, 0, []⟩)] := hH
    replace hH : Hp w w7 (off w (blksOf [.grp (rbxO yb (.slice Ar 0 cr) (.slice At 0 ct) ⟨none, 0, []⟩)])) (blksOf [.grp (rbxO yb (.slice Ar 0 cr) (.slice At 0 ct) ⟨none, 0, []⟩)]) (rbxO yb (.slice Ar 0 cr) (.slice At 0 ct) ⟨none, 0, []⟩ ++ []) := hH
    have hr := putI_no (S := ⟨none, 0, []⟩) (p := p) nv hc1
    refine ⟨.slice Ar 0 cr, .slice At 0 ct, .slice none 0 0, .slice none 0 0, ?_⟩
    rw [hr]
    exact ⟨rfl, (((hH.close).nilRow 5 1).nilRow 5 1).turned⟩
  try simp only [decide_eq_false_iff_not, beq_eq_false_iff_ne, bne_eq_false_iff_eq, ne_eq, Decidable.not_not, Int.not_lt, Int.not_le, Bool.not_eq_false', beq_iff_eq, bne_iff_ne, decide_eq_true_eq] at hc1
  obtain ⟨q1, q2, q3, q4, q5, q6⟩ := mayP_true hc1
  have hmm : ((p.many.toNat : Nat) : Int) = p.many := Int.toNat_of_nonneg (by omega)
  obtain ⟨k, hk⟩ : ∃ k : Nat, p.n = k := ⟨p.n.toNat, by omega⟩
  have hkm : k < p.many.toNat := by omega
  refine sw_skip ?_
  refine sw_next ?_
  refine sw_seq ?_
  refine sw_draw (by kernel_rfl) (fun w_ => Hp w w_ (off w (blksOf [.grp (rbxO yb (.slice Ar 0 cr) (.slice At 0 ct) ⟨none, 0, []⟩)])) (blksOf [.grp (rbxO yb (.slice Ar 0 cr) (.slice At 0 ct) ⟨none, 0, []⟩)]) [.blk yb 58 [.bool false, .int .i64 0, .int .i64 0, .bool false, .slice Ar 0 cr, .slice At 0 ct], .row (.slice Ar 0 cr) 9 1 0 (rowsL ⟨none, 0, []⟩), .row (.slice At 0 ct) 4 1 0 (thereL ⟨none, 0, []⟩), .blk b1 48 [.int .i64 p.idx, .int .i64 p.term, .int .i64 p.n, .int .i64 p.many, .slice Ab p.bytes.length cb], .blk b3 24 [.int .i64 0, .int .i64 0, .slice none 0 0, .slice none 0 0]]) ?_  -- R4 ref.go:142
  replace hH := hH.drew
  generalize { w5 with drawn := w5.drawn + 1 } = w8 at hH ⊢
  refine gd_pure 0 rfl (by kernel_rfl) (PQ.th PQ.body) (hH.sublist (.cons_cons _ (.cons_cons _ (.cons_cons _ (.cons_cons _ (.cons_cons _ (List.nil_sublist _))))))) rfl rfl (.pointer (some ⟨yb, 0, none⟩)) (by kernel_rfl) ?_
  refine gd_pure 1 rfl (by kernel_rfl) (PQ.th PQ.body) (hH.sublist (.cons_cons _ (.cons_cons _ (.cons_cons _ (.cons_cons _ (.cons_cons _ (List.nil_sublist _))))))) rfl rfl (.pointer (some ⟨yb, 0, none⟩)) (by kernel_rfl) ?_
  refine gd_pure 2 rfl (by kernel_rfl) (PQ.th PQ.body) (hH.sublist (.cons_cons _ (.cons_cons _ (.cons_cons _ (.cons_cons _ (.cons_cons _ (List.nil_sublist _))))))) rfl rfl (.pointer (some ⟨yb, 0, none⟩)) (by kernel_rfl) ?_
  refine gd_keep [(0, .pointer (some ⟨yb, 0, none⟩)), (3, .pointer (some ⟨b1, 0, none⟩)), (4, .pointer (some ⟨b3, 0, none⟩)), (21, .pointer (some ⟨yb, 0, none⟩))] (by kernel_rfl) ?_
  refine gd_q 3 rfl (by kernel_rfl) (PQ.th PQ.body) (hH.sublist (.cons_cons _ (.cons_cons _ (.cons_cons _ (.cons_cons _ (.cons_cons _ (List.nil_sublist _))))))) rfl rfl (fun w_ hS => (rd_loadK 0 (by kernel_rfl) hS rfl rfl rfl)) ?_
  refine gd_pure 4 rfl (by kernel_rfl) (PQ.th PQ.body) (hH.sublist (.cons_cons _ (.cons_cons _ (.cons_cons _ (.cons_cons _ (.cons_cons _ (List.nil_sublist _))))))) rfl rfl (.bool false) (by kernel_rfl) ?_
  refine gd_not 5 rfl (by kernel_rfl) (PQ.th PQ.body) (hH.sublist (.cons_cons _ (.cons_cons _ (.cons_cons _ (.cons_cons _ (.cons_cons _ (List.nil_sublist _))))))) rfl rfl ?_
  refine gd_keep [(0, .pointer (some ⟨yb, 0, none⟩)), (3, .pointer (some ⟨b1, 0, none⟩)), (4, .pointer (some ⟨b3, 0, none⟩)), (23, .bool false), (24, undef)] (by kernel_rfl) ?_
  refine gd_not 6 rfl (by kernel_rfl) (PQ.th PQ.body) (hH.sublist (.cons_cons _ (.cons_cons _ (.cons_cons _ (.cons_cons _ (.cons_cons _ (List.nil_sublist _))))))) rfl rfl ?_
  refine gd_not 7 rfl (by kernel_rfl) (PQ.th PQ.body) (hH.sublist (.cons_cons _ (.cons_cons _ (.cons_cons _ (.cons_cons _ (.cons_cons _ (List.nil_sublist _))))))) rfl rfl ?_
  refine gd_not 8 rfl (by kernel_rfl) (PQ.th PQ.body) (hH.sublist (.cons_cons _ (.cons_cons _ (.cons_cons _ (.cons_cons _ (.cons_cons _ (List.nil_sublist _))))))) rfl rfl ?_
  refine gd_keep [(0, .pointer (some ⟨yb, 0, none⟩)), (3, .pointer (some ⟨b1, 0, none⟩)), (4, .pointer (some ⟨b3, 0, none⟩)), (23, .bool false), (25, undef), (27, undef)] (by kernel_rfl) ?_
  refine gd_not 9 rfl (by kernel_rfl) (PQ.th PQ.body) (hH.sublist (.cons_cons _ (.cons_cons _ (.cons_cons _ (.cons_cons _ (.cons_cons _ (List.nil_sublist _))))))) rfl rfl ?_
  refine gd_not 10 rfl (by kernel_rfl) (PQ.th PQ.body) (hH.sublist (.cons_cons _ (.cons_cons _ (.cons_cons _ (.cons_cons _ (.cons_cons _ (List.nil_sublist _))))))) rfl rfl ?_
  refine gd_not 11 rfl (by kernel_rfl) (PQ.th PQ.body) (hH.sublist (.cons_cons _ (.cons_cons _ (.cons_cons _ (.cons_cons _ (.cons_cons _ (List.nil_sublist _))))))) rfl rfl ?_
  refine gd_keep [(0, .pointer (some ⟨yb, 0, none⟩)), (3, .pointer (some ⟨b1, 0, none⟩)), (4, .pointer (some ⟨b3, 0, none⟩)), (23, .bool false), (30, undef)] (by kernel_rfl) ?_
  refine gd_pure 12 rfl (by kernel_rfl) (PQ.th PQ.body) (hH.sublist (.cons_cons _ (.cons_cons _ (.cons_cons _ (.cons_cons _ (.cons_cons _ (List.nil_sublist _))))))) rfl rfl (.bool false) (by kernel_rfl) ?_
  refine gd_pure 13 rfl (by kernel_rfl) (PQ.th PQ.body) (hH.sublist (.cons_cons _ (.cons_cons _ (.cons_cons _ (.cons_cons _ (.cons_cons _ (List.nil_sublist _))))))) rfl rfl (.bool false) (by kernel_rfl) ?_
  refine gd_not 14 rfl (by kernel_rfl) (PQ.th PQ.body) (hH.sublist (.cons_cons _ (.cons_cons _ (.cons_cons _ (.cons_cons _ (.cons_cons _ (List.nil_sublist _))))))) rfl rfl ?_
  refine gd_keep [(0, .pointer (some ⟨yb, 0, none⟩)), (3, .pointer (some ⟨b1, 0, none⟩)), (4, .pointer (some ⟨b3, 0, none⟩)), (32, .bool false), (33, undef)] (by kernel_rfl) ?_
  refine gd_not 15 rfl (by kernel_rfl) (PQ.th PQ.body) (hH.sublist (.cons_cons _ (.cons_cons _ (.cons_cons _ (.cons_cons _ (.cons_cons _ (List.nil_sublist _))))))) rfl rfl ?_
  refine gd_not 16 rfl (by kernel_rfl) (PQ.th PQ.body) (hH.sublist (.cons_cons _ (.cons_cons _ (.cons_cons _ (.cons_cons _ (.cons_cons _ (List.nil_sublist _))))))) rfl rfl ?_
  refine gd_not 17 rfl (by kernel_rfl) (PQ.th PQ.body) (hH.sublist (.cons_cons _ (.cons_cons _ (.cons_cons _ (.cons_cons _ (.cons_cons _ (List.nil_sublist _))))))) rfl rfl ?_
  refine gd_keep [(0, .pointer (some ⟨yb, 0, none⟩)), (3, .pointer (some ⟨b1, 0, none⟩)), (4, .pointer (some ⟨b3, 0, none⟩)), (32, .bool false), (34, undef), (36, undef)] (by kernel_rfl) ?_
  refine gd_not 18 rfl (by kernel_rfl) (PQ.th PQ.body) (hH.sublist (.cons_cons _ (.cons_cons _ (.cons_cons _ (.cons_cons _ (.cons_cons _ (List.nil_sublist _))))))) rfl rfl ?_
  refine gd_not 19 rfl (by kernel_rfl) (PQ.th PQ.body) (hH.sublist (.cons_cons _ (.cons_cons _ (.cons_cons _ (.cons_cons _ (.cons_cons _ (List.nil_sublist _))))))) rfl rfl ?_
  refine gd_not 20 rfl (by kernel_rfl) (PQ.th PQ.body) (hH.sublist (.cons_cons _ (.cons_cons _ (.cons_cons _ (.cons_cons _ (.cons_cons _ (List.nil_sublist _))))))) rfl rfl ?_
  refine gd_keep [(0, .pointer (some ⟨yb, 0, none⟩)), (3, .pointer (some ⟨b1, 0, none⟩)), (4, .pointer (some ⟨b3, 0, none⟩)), (32, .bool false), (39, undef)] (by kernel_rfl) ?_
  refine gd_pure 21 rfl (by kernel_rfl) (PQ.th PQ.body) (hH.sublist (.cons_cons _ (.cons_cons _ (.cons_cons _ (.cons_cons _ (.cons_cons _ (List.nil_sublist _))))))) rfl rfl (.bool false) (by kernel_rfl) ?_
  refine gd_pure 22 rfl (by kernel_rfl) (PQ.th PQ.body) (hH.sublist (.cons_cons _ (.cons_cons _ (.cons_cons _ (.cons_cons _ (.cons_cons _ (List.nil_sublist _))))))) rfl rfl (.bool false) (by kernel_rfl) ?_
  refine gd_done (by kernel_rfl) ?_
  refine at_sub [(0, .pointer (some ⟨yb, 0, none⟩)), (3, .pointer (some ⟨b1, 0, none⟩)), (4, .pointer (some ⟨b3, 0, none⟩)), (8, .bool false)] (Sub.of_eq (by kernel_rfl)) ?_
  refine sw_next ?_
  refine sw_seq ?_
  refine sw_draw (by kernel_rfl) (fun w_ => Hp w w_ (off w (blksOf [.grp (rbxO yb (.slice Ar 0 cr) (.slice At 0 ct) ⟨none, 0, []⟩)])) (blksOf [.grp (rbxO yb (.slice Ar 0 cr) (.slice At 0 ct) ⟨none, 0, []⟩)]) [.blk yb 58 [.bool false, .int .i64 0, .int .i64 0, .bool false, .slice Ar 0 cr, .slice At 0 ct], .row (.slice Ar 0 cr) 9 1 0 (rowsL ⟨none, 0, []⟩), .row (.slice At 0 ct) 4 1 0 (thereL ⟨none, 0, []⟩), .blk b1 48 [.int .i64 p.idx, .int .i64 p.term, .int .i64 p.n, .int .i64 p.many, .slice Ab p.bytes.length cb], .blk b3 24 [.int .i64 0, .int .i64 0, .slice none 0 0, .slice none 0 0]]) ?_  -- R5 ref.go:143
  replace hH := hH.drew
  generalize { w8 with drawn := w8.drawn + 1 } = w9 at hH ⊢
  refine gd_pure 0 rfl (by kernel_rfl) (PQ.th PQ.body) (hH.sublist (.cons_cons _ (.cons_cons _ (.cons_cons _ (.cons_cons _ (.cons_cons _ (List.nil_sublist _))))))) rfl rfl (.pointer (some ⟨yb, 0, none⟩)) (by kernel_rfl) ?_
  refine gd_pure 1 rfl (by kernel_rfl) (PQ.th PQ.body) (hH.sublist (.cons_cons _ (.cons_cons _ (.cons_cons _ (.cons_cons _ (.cons_cons _ (List.nil_sublist _))))))) rfl rfl (.pointer (some ⟨yb, 0, none⟩)) (by kernel_rfl) ?_
  refine gd_pure 2 rfl (by kernel_rfl) (PQ.th PQ.body) (hH.sublist (.cons_cons _ (.cons_cons _ (.cons_cons _ (.cons_cons _ (.cons_cons _ (List.nil_sublist _))))))) rfl rfl (.pointer (some ⟨yb, 0, none⟩)) (by kernel_rfl) ?_
  refine gd_keep [(0, .pointer (some ⟨yb, 0, none⟩)), (3, .pointer (some ⟨b1, 0, none⟩)), (4, .pointer (some ⟨b3, 0, none⟩)), (8, .bool false), (43, .pointer (some ⟨yb, 0, none⟩))] (by kernel_rfl) ?_
  refine gd_q 3 rfl (by kernel_rfl) (PQ.th PQ.body) (hH.sublist (.cons_cons _ (.cons_cons _ (.cons_cons _ (.cons_cons _ (.cons_cons _ (List.nil_sublist _))))))) rfl rfl (fun w_ hS => (rd_loadK 0 (by kernel_rfl) hS rfl rfl rfl)) ?_
  refine gd_pure 4 rfl (by kernel_rfl) (PQ.th PQ.body) (hH.sublist (.cons_cons _ (.cons_cons _ (.cons_cons _ (.cons_cons _ (.cons_cons _ (List.nil_sublist _))))))) rfl rfl (.bool false) (by kernel_rfl) ?_
  refine gd_not 5 rfl (by kernel_rfl) (PQ.th PQ.body) (hH.sublist (.cons_cons _ (.cons_cons _ (.cons_cons _ (.cons_cons _ (.cons_cons _ (List.nil_sublist _))))))) rfl rfl ?_
  refine gd_keep [(0, .pointer (some ⟨yb, 0, none⟩)), (3, .pointer (some ⟨b1, 0, none⟩)), (4, .pointer (some ⟨b3, 0, none⟩)), (8, .bool false), (45, .bool false), (46, undef)] (by kernel_rfl) ?_
  refine gd_not 6 rfl (by kernel_rfl) (PQ.th PQ.body) (hH.sublist (.cons_cons _ (.cons_cons _ (.cons_cons _ (.cons_cons _ (.cons_cons _ (List.nil_sublist _))))))) rfl rfl ?_
  refine gd_not 7 rfl (by kernel_rfl) (PQ.th PQ.body) (hH.sublist (.cons_cons _ (.cons_cons _ (.cons_cons _ (.cons_cons _ (.cons_cons _ (List.nil_sublist _))))))) rfl rfl ?_
  refine gd_not 8 rfl (by kernel_rfl) (PQ.th PQ.body) (hH.sublist (.cons_cons _ (.cons_cons _ (.cons_cons _ (.cons_cons _ (.cons_cons _ (List.nil_sublist _))))))) rfl rfl ?_
  refine gd_keep [(0, .pointer (some ⟨yb, 0, none⟩)), (3, .pointer (some ⟨b1, 0, none⟩)), (4, .pointer (some ⟨b3, 0, none⟩)), (8, .bool false), (45, .bool false), (47, undef), (49, undef)] (by kernel_rfl) ?_
  refine gd_not 9 rfl (by kernel_rfl) (PQ.th PQ.body) (hH.sublist (.cons_cons _ (.cons_cons _ (.cons_cons _ (.cons_cons _ (.cons_cons _ (List.nil_sublist _))))))) rfl rfl ?_
  refine gd_not 10 rfl (by kernel_rfl) (PQ.th PQ.body) (hH.sublist (.cons_cons _ (.cons_cons _ (.cons_cons _ (.cons_cons _ (.cons_cons _ (List.nil_sublist _))))))) rfl rfl ?_
  refine gd_not 11 rfl (by kernel_rfl) (PQ.th PQ.body) (hH.sublist (.cons_cons _ (.cons_cons _ (.cons_cons _ (.cons_cons _ (.cons_cons _ (List.nil_sublist _))))))) rfl rfl ?_
  refine gd_keep [(0, .pointer (some ⟨yb, 0, none⟩)), (3, .pointer (some ⟨b1, 0, none⟩)), (4, .pointer (some ⟨b3, 0, none⟩)), (8, .bool false), (45, .bool false), (52, undef)] (by kernel_rfl) ?_
  refine gd_not 12 rfl (by kernel_rfl) (PQ.th PQ.body) (hH.sublist (.cons_cons _ (.cons_cons _ (.cons_cons _ (.cons_cons _ (.cons_cons _ (List.nil_sublist _))))))) rfl rfl ?_
  refine gd_not 13 rfl (by kernel_rfl) (PQ.th PQ.body) (hH.sublist (.cons_cons _ (.cons_cons _ (.cons_cons _ (.cons_cons _ (.cons_cons _ (List.nil_sublist _))))))) rfl rfl ?_
  refine gd_not 14 rfl (by kernel_rfl) (PQ.th PQ.body) (hH.sublist (.cons_cons _ (.cons_cons _ (.cons_cons _ (.cons_cons _ (.cons_cons _ (List.nil_sublist _))))))) rfl rfl ?_
  refine gd_keep [(0, .pointer (some ⟨yb, 0, none⟩)), (3, .pointer (some ⟨b1, 0, none⟩)), (4, .pointer (some ⟨b3, 0, none⟩)), (8, .bool false), (45, .bool false), (53, undef), (55, undef)] (by kernel_rfl) ?_
  refine gd_not 15 rfl (by kernel_rfl) (PQ.th PQ.body) (hH.sublist (.cons_cons _ (.cons_cons _ (.cons_cons _ (.cons_cons _ (.cons_cons _ (List.nil_sublist _))))))) rfl rfl ?_
  refine gd_not 16 rfl (by kernel_rfl) (PQ.th PQ.body) (hH.sublist (.cons_cons _ (.cons_cons _ (.cons_cons _ (.cons_cons _ (.cons_cons _ (List.nil_sublist _))))))) rfl rfl ?_
  refine gd_not 17 rfl (by kernel_rfl) (PQ.th PQ.body) (hH.sublist (.cons_cons _ (.cons_cons _ (.cons_cons _ (.cons_cons _ (.cons_cons _ (List.nil_sublist _))))))) rfl rfl ?_
  refine gd_keep [(0, .pointer (some ⟨yb, 0, none⟩)), (3, .pointer (some ⟨b1, 0, none⟩)), (4, .pointer (some ⟨b3, 0, none⟩)), (8, .bool false), (45, .bool false), (53, undef), (55, undef), (58, undef)] (by kernel_rfl) ?_
  refine gd_not 18 rfl (by kernel_rfl) (PQ.th PQ.body) (hH.sublist (.cons_cons _ (.cons_cons _ (.cons_cons _ (.cons_cons _ (.cons_cons _ (List.nil_sublist _))))))) rfl rfl ?_
  refine gd_not 19 rfl (by kernel_rfl) (PQ.th PQ.body) (hH.sublist (.cons_cons _ (.cons_cons _ (.cons_cons _ (.cons_cons _ (.cons_cons _ (List.nil_sublist _))))))) rfl rfl ?_
  refine gd_not 20 rfl (by kernel_rfl) (PQ.th PQ.body) (hH.sublist (.cons_cons _ (.cons_cons _ (.cons_cons _ (.cons_cons _ (.cons_cons _ (List.nil_sublist _))))))) rfl rfl ?_
  refine gd_keep [(0, .pointer (some ⟨yb, 0, none⟩)), (3, .pointer (some ⟨b1, 0, none⟩)), (4, .pointer (some ⟨b3, 0, none⟩)), (8, .bool false), (45, .bool false), (53, undef), (61, undef)] (by kernel_rfl) ?_
  refine gd_not 21 rfl (by kernel_rfl) (PQ.th PQ.body) (hH.sublist (.cons_cons _ (.cons_cons _ (.cons_cons _ (.cons_cons _ (.cons_cons _ (List.nil_sublist _))))))) rfl rfl ?_
  refine gd_not 22 rfl (by kernel_rfl) (PQ.th PQ.body) (hH.sublist (.cons_cons _ (.cons_cons _ (.cons_cons _ (.cons_cons _ (.cons_cons _ (List.nil_sublist _))))))) rfl rfl ?_
  refine gd_not 23 rfl (by kernel_rfl) (PQ.th PQ.body) (hH.sublist (.cons_cons _ (.cons_cons _ (.cons_cons _ (.cons_cons _ (.cons_cons _ (List.nil_sublist _))))))) rfl rfl ?_
  refine gd_keep [(0, .pointer (some ⟨yb, 0, none⟩)), (3, .pointer (some ⟨b1, 0, none⟩)), (4, .pointer (some ⟨b3, 0, none⟩)), (8, .bool false), (45, .bool false), (53, undef), (61, undef), (63, undef), (64, undef)] (by kernel_rfl) ?_
  refine gd_not 24 rfl (by kernel_rfl) (PQ.th PQ.body) (hH.sublist (.cons_cons _ (.cons_cons _ (.cons_cons _ (.cons_cons _ (.cons_cons _ (List.nil_sublist _))))))) rfl rfl ?_
  refine gd_not 25 rfl (by kernel_rfl) (PQ.th PQ.body) (hH.sublist (.cons_cons _ (.cons_cons _ (.cons_cons _ (.cons_cons _ (.cons_cons _ (List.nil_sublist _))))))) rfl rfl ?_
  refine gd_not 26 rfl (by kernel_rfl) (PQ.th PQ.body) (hH.sublist (.cons_cons _ (.cons_cons _ (.cons_cons _ (.cons_cons _ (.cons_cons _ (List.nil_sublist _))))))) rfl rfl ?_
  refine gd_keep [(0, .pointer (some ⟨yb, 0, none⟩)), (3, .pointer (some ⟨b1, 0, none⟩)), (4, .pointer (some ⟨b3, 0, none⟩)), (8, .bool false), (45, .bool false), (53, undef), (61, undef), (63, undef), (67, undef)] (by kernel_rfl) ?_
  refine gd_not 27 rfl (by kernel_rfl) (PQ.th PQ.body) (hH.sublist (.cons_cons _ (.cons_cons _ (.cons_cons _ (.cons_cons _ (.cons_cons _ (List.nil_sublist _))))))) rfl rfl ?_
  refine gd_not 28 rfl (by kernel_rfl) (PQ.th PQ.body) (hH.sublist (.cons_cons _ (.cons_cons _ (.cons_cons _ (.cons_cons _ (.cons_cons _ (List.nil_sublist _))))))) rfl rfl ?_
  refine gd_not 29 rfl (by kernel_rfl) (PQ.th PQ.body) (hH.sublist (.cons_cons _ (.cons_cons _ (.cons_cons _ (.cons_cons _ (.cons_cons _ (List.nil_sublist _))))))) rfl rfl ?_
  refine gd_keep [(0, .pointer (some ⟨yb, 0, none⟩)), (3, .pointer (some ⟨b1, 0, none⟩)), (4, .pointer (some ⟨b3, 0, none⟩)), (8, .bool false), (45, .bool false), (70, undef)] (by kernel_rfl) ?_
  refine gd_pure 30 rfl (by kernel_rfl) (PQ.th PQ.body) (hH.sublist (.cons_cons _ (.cons_cons _ (.cons_cons _ (.cons_cons _ (.cons_cons _ (List.nil_sublist _))))))) rfl rfl (.bool false) (by kernel_rfl) ?_
  refine gd_pure 31 rfl (by kernel_rfl) (PQ.th PQ.body) (hH.sublist (.cons_cons _ (.cons_cons _ (.cons_cons _ (.cons_cons _ (.cons_cons _ (List.nil_sublist _))))))) rfl rfl (.bool false) (by kernel_rfl) ?_
  refine gd_done (by kernel_rfl) ?_
  refine at_sub [(0, .pointer (some ⟨yb, 0, none⟩)), (3, .pointer (some ⟨b1, 0, none⟩)), (4, .pointer (some ⟨b3, 0, none⟩)), (8, .bool false), (9, .bool false)] (Sub.of_eq (by kernel_rfl)) ?_
  refine sw_next ?_
  refine sw_seq ?_
  refine sw_seq ?_
  refine sw_draw (by kernel_rfl) (fun w_ => Hp w w_ (off w (blksOf [.grp (rbxO yb (.slice Ar 0 cr) (.slice At 0 ct) ⟨none, 0, []⟩)])) (blksOf [.grp (rbxO yb (.slice Ar 0 cr) (.slice At 0 ct) ⟨none, 0, []⟩)]) [.blk yb 58 [.bool false, .int .i64 0, .int .i64 0, .bool false, .slice Ar 0 cr, .slice At 0 ct], .row (.slice Ar 0 cr) 9 1 0 (rowsL ⟨none, 0, []⟩), .row (.slice At 0 ct) 4 1 0 (thereL ⟨none, 0, []⟩), .blk b1 48 [.int .i64 p.idx, .int .i64 p.term, .int .i64 p.n, .int .i64 p.many, .slice Ab p.bytes.length cb], .blk b3 24 [.int .i64 0, .int .i64 0, .slice none 0 0, .slice none 0 0]]) ?_  -- R6 ref.go:144
  replace hH := hH.drew
  generalize { w9 with drawn := w9.drawn + 1 } = w10 at hH ⊢
  refine gd_pure 0 rfl (by kernel_rfl) (PQ.th (PQ.th PQ.body)) (hH.sublist (.cons_cons _ (.cons_cons _ (.cons_cons _ (.cons_cons _ (.cons_cons _ (List.nil_sublist _))))))) rfl rfl (.bool false) (by kernel_rfl) ?_
  refine gd_pure 1 rfl (by kernel_rfl) (PQ.th (PQ.th PQ.body)) (hH.sublist (.cons_cons _ (.cons_cons _ (.cons_cons _ (.cons_cons _ (.cons_cons _ (List.nil_sublist _))))))) rfl rfl (.bool false) (by kernel_rfl) ?_
  refine gd_pure 2 rfl (by kernel_rfl) (PQ.th (PQ.th PQ.body)) (hH.sublist (.cons_cons _ (.cons_cons _ (.cons_cons _ (.cons_cons _ (.cons_cons _ (List.nil_sublist _))))))) rfl rfl (.bool false) (by kernel_rfl) ?_
  refine gd_keep [(0, .pointer (some ⟨yb, 0, none⟩)), (3, .pointer (some ⟨b1, 0, none⟩)), (4, .pointer (some ⟨b3, 0, none⟩)), (8, .bool false), (73, .bool false), (74, .bool false)] (by kernel_rfl) ?_
  refine gd_pure 3 rfl (by kernel_rfl) (PQ.th (PQ.th PQ.body)) (hH.sublist (.cons_cons _ (.cons_cons _ (.cons_cons _ (.cons_cons _ (.cons_cons _ (List.nil_sublist _))))))) rfl rfl (.bool false) (by kernel_rfl) ?_
  refine gd_not 4 rfl (by kernel_rfl) (PQ.th (PQ.th PQ.body)) (hH.sublist (.cons_cons _ (.cons_cons _ (.cons_cons _ (.cons_cons _ (.cons_cons _ (List.nil_sublist _))))))) rfl rfl ?_
  refine gd_not 5 rfl (by kernel_rfl) (PQ.th (PQ.th PQ.body)) (hH.sublist (.cons_cons _ (.cons_cons _ (.cons_cons _ (.cons_cons _ (.cons_cons _ (List.nil_sublist _))))))) rfl rfl ?_
  refine gd_keep [(0, .pointer (some ⟨yb, 0, none⟩)), (3, .pointer (some ⟨b1, 0, none⟩)), (4, .pointer (some ⟨b3, 0, none⟩)), (8, .bool false), (73, .bool false), (75, .bool false), (77, undef)] (by kernel_rfl) ?_
  refine gd_not 6 rfl (by kernel_rfl) (PQ.th (PQ.th PQ.body)) (hH.sublist (.cons_cons _ (.cons_cons _ (.cons_cons _ (.cons_cons _ (.cons_cons _ (List.nil_sublist _))))))) rfl rfl ?_
  refine gd_not 7 rfl (by kernel_rfl) (PQ.th (PQ.th PQ.body)) (hH.sublist (.cons_cons _ (.cons_cons _ (.cons_cons _ (.cons_cons _ (.cons_cons _ (List.nil_sublist _))))))) rfl rfl ?_
  refine gd_not 8 rfl (by kernel_rfl) (PQ.th (PQ.th PQ.body)) (hH.sublist (.cons_cons _ (.cons_cons _ (.cons_cons _ (.cons_cons _ (.cons_cons _ (List.nil_sublist _))))))) rfl rfl ?_
  refine gd_keep [(0, .pointer (some ⟨yb, 0, none⟩)), (3, .pointer (some ⟨b1, 0, none⟩)), (4, .pointer (some ⟨b3, 0, none⟩)), (8, .bool false), (73, .bool false), (75, .bool false), (80, undef)] (by kernel_rfl) ?_
  refine gd_not 9 rfl (by kernel_rfl) (PQ.th (PQ.th PQ.body)) (hH.sublist (.cons_cons _ (.cons_cons _ (.cons_cons _ (.cons_cons _ (.cons_cons _ (List.nil_sublist _))))))) rfl rfl ?_
  refine gd_not 10 rfl (by kernel_rfl) (PQ.th (PQ.th PQ.body)) (hH.sublist (.cons_cons _ (.cons_cons _ (.cons_cons _ (.cons_cons _ (.cons_cons _ (List.nil_sublist _))))))) rfl rfl ?_
  refine gd_not 11 rfl (by kernel_rfl) (PQ.th (PQ.th PQ.body)) (hH.sublist (.cons_cons _ (.cons_cons _ (.cons_cons _ (.cons_cons _ (.cons_cons _ (List.nil_sublist _))))))) rfl rfl ?_
  refine gd_keep [(0, .pointer (some ⟨yb, 0, none⟩)), (3, .pointer (some ⟨b1, 0, none⟩)), (4, .pointer (some ⟨b3, 0, none⟩)), (8, .bool false), (73, .bool false), (75, .bool false), (81, undef), (83, undef)] (by kernel_rfl) ?_
  refine gd_not 12 rfl (by kernel_rfl) (PQ.th (PQ.th PQ.body)) (hH.sublist (.cons_cons _ (.cons_cons _ (.cons_cons _ (.cons_cons _ (.cons_cons _ (List.nil_sublist _))))))) rfl rfl ?_
  refine gd_not 13 rfl (by kernel_rfl) (PQ.th (PQ.th PQ.body)) (hH.sublist (.cons_cons _ (.cons_cons _ (.cons_cons _ (.cons_cons _ (.cons_cons _ (List.nil_sublist _))))))) rfl rfl ?_
  refine gd_not 14 rfl (by kernel_rfl) (PQ.th (PQ.th PQ.body)) (hH.sublist (.cons_cons _ (.cons_cons _ (.cons_cons _ (.cons_cons _ (.cons_cons _ (List.nil_sublist _))))))) rfl rfl ?_
  refine gd_keep [(0, .pointer (some ⟨yb, 0, none⟩)), (3, .pointer (some ⟨b1, 0, none⟩)), (4, .pointer (some ⟨b3, 0, none⟩)), (8, .bool false), (73, .bool false), (75, .bool false), (81, undef), (86, undef)] (by kernel_rfl) ?_
  refine gd_not 15 rfl (by kernel_rfl) (PQ.th (PQ.th PQ.body)) (hH.sublist (.cons_cons _ (.cons_cons _ (.cons_cons _ (.cons_cons _ (.cons_cons _ (List.nil_sublist _))))))) rfl rfl ?_
  refine gd_not 16 rfl (by kernel_rfl) (PQ.th (PQ.th PQ.body)) (hH.sublist (.cons_cons _ (.cons_cons _ (.cons_cons _ (.cons_cons _ (.cons_cons _ (List.nil_sublist _))))))) rfl rfl ?_
  refine gd_not 17 rfl (by kernel_rfl) (PQ.th (PQ.th PQ.body)) (hH.sublist (.cons_cons _ (.cons_cons _ (.cons_cons _ (.cons_cons _ (.cons_cons _ (List.nil_sublist _))))))) rfl rfl ?_
  refine gd_keep [(0, .pointer (some ⟨yb, 0, none⟩)), (3, .pointer (some ⟨b1, 0, none⟩)), (4, .pointer (some ⟨b3, 0, none⟩)), (8, .bool false), (73, .bool false), (75, .bool false), (81, undef), (89, undef)] (by kernel_rfl) ?_
  refine gd_not 18 rfl (by kernel_rfl) (PQ.th (PQ.th PQ.body)) (hH.sublist (.cons_cons _ (.cons_cons _ (.cons_cons _ (.cons_cons _ (.cons_cons _ (List.nil_sublist _))))))) rfl rfl ?_
  refine gd_pure 19 rfl (by kernel_rfl) (PQ.th (PQ.th PQ.body)) (hH.sublist (.cons_cons _ (.cons_cons _ (.cons_cons _ (.cons_cons _ (.cons_cons _ (List.nil_sublist _))))))) rfl rfl (.bool false) (by kernel_rfl) ?_
  refine gd_pure 20 rfl (by kernel_rfl) (PQ.th (PQ.th PQ.body)) (hH.sublist (.cons_cons _ (.cons_cons _ (.cons_cons _ (.cons_cons _ (.cons_cons _ (List.nil_sublist _))))))) rfl rfl (.bool false) (by kernel_rfl) ?_
  refine gd_keep [(0, .pointer (some ⟨yb, 0, none⟩)), (3, .pointer (some ⟨b1, 0, none⟩)), (4, .pointer (some ⟨b3, 0, none⟩)), (8, .bool false), (92, .bool false)] (by kernel_rfl) ?_
  refine gd_done (by kernel_rfl) ?_
  refine at_sub [(0, .pointer (some ⟨yb, 0, none⟩)), (3, .pointer (some ⟨b1, 0, none⟩)), (4, .pointer (some ⟨b3, 0, none⟩)), (8, .bool false), (92, .bool false)] (Sub.of_eq (by kernel_rfl)) ?_
  refine sw_next ?_
  refine sw_false rfl rfl ?_
  refine sw_skip ?_
  refine sw_next ?_
  refine sw_cut (γ := List (Int × Value × List UInt8) × Option Addr × Nat × Option Addr × Nat) (fun (rs2, A2, c2, A3, c3) => [(0, .pointer (some ⟨yb, 0, none⟩)), (3, .pointer (some ⟨b1, 0, none⟩)), (4, .pointer (some ⟨b3, 0, none⟩))]) (fun (rs2, A2, c2, A3, c3) w_ => (baseI ⟨none, 0, []⟩ p = some rs2) ∧ (∀ r ∈ rs2, r.2.2.length ≤ 512) ∧ (Keys rs2 p.many.toNat) ∧ Hp w w_ (off w (blksOf [.grp (rbxO yb (.slice Ar 0 cr) (.slice At 0 ct) ⟨none, 0, []⟩)])) (blksOf [.grp (rbxO yb (.slice Ar 0 cr) (.slice At 0 ct) ⟨none, 0, []⟩)]) [.blk yb 58 [.bool true, .int .i64 p.idx, .int .i64 p.term, .bool true, .slice A2 p.many.toNat c2, .slice A3 p.many.toNat c3], .row (.slice A2 p.many.toNat c2) 9 1 p.many.toNat (rowsL ⟨some (p.term, p.idx), p.many.toNat, rs2⟩), .row (.slice A3 p.many.toNat c3) 4 1 p.many.toNat (thereL ⟨some (p.term, p.idx), p.many.toNat, rs2⟩), .blk b1 48 [.int .i64 p.idx, .int .i64 p.term, .int .i64 p.n, .int .i64 p.many, .slice Ab p.bytes.length cb], .blk b3 24 [.int .i64 0, .int .i64 0, .slice none 0 0, .slice none 0 0]]) ?_ ?_
  ·
    refine sw_seq ?_
    refine sw_region ?_  -- R8 ref.go:147
    refine gl_ops 2 [(0, .pointer (some ⟨yb, 0, none⟩)), (3, .pointer (some ⟨b1, 0, none⟩)), (4, .pointer (some ⟨b3, 0, none⟩)), (95, .bool true)] (by kernel_rfl) ?_
    refine gl_done rfl ?_
    refine sw_next ?_
    refine sw_true rfl rfl ?_
    refine sw_seq ?_
    refine sw_region ?_  -- R9 ref.go:148
    refine gl_ops 3 [(0, .pointer (some ⟨yb, 0, none⟩)), (3, .pointer (some ⟨b1, 0, none⟩)), (4, .pointer (some ⟨b3, 0, none⟩)), (98, .pointer (some ⟨yb, 0, none⟩))] (by kernel_rfl) ?_
    refine gl_st (st_storeK (v := .bool true) 0 rfl rfl rfl hH rfl rfl rfl (by kernel_rfl) rfl (by simp) ?_)
    clear hH; intro w11 hH
    refine gl_done rfl ?_
    refine sw_next ?_
    refine sw_seq ?_
    refine sw_region ?_  -- R10 ref.go:149
    refine gl_ops 3 [(0, .pointer (some ⟨yb, 0, none⟩)), (3, .pointer (some ⟨b1, 0, none⟩)), (4, .pointer (some ⟨b3, 0, none⟩)), (101, .pointer (some ⟨yb, 3, none⟩))] (by kernel_rfl) ?_
    refine gl_st (st_storeK (v := .bool true) 0 rfl rfl rfl hH rfl rfl rfl (by kernel_rfl) rfl (by simp) ?_)
    clear hH; intro w12 hH
    refine gl_done rfl ?_
    refine sw_next ?_
    refine sw_seq ?_
    refine sw_region ?_  -- R11 ref.go:150
    refine gl_ops 2 [(0, .pointer (some ⟨yb, 0, none⟩)), (3, .pointer (some ⟨b1, 0, none⟩)), (4, .pointer (some ⟨b3, 0, none⟩)), (102, .pointer (some ⟨yb, 0, none⟩)), (103, .pointer (some ⟨b1, 0, none⟩))] (by kernel_rfl) ?_
    refine gl_q rfl rfl rfl (rd_loadK 3 (by kernel_rfl) hH rfl rfl rfl) ?_
    refine gl_ops 2 [(0, .pointer (some ⟨yb, 0, none⟩)), (3, .pointer (some ⟨b1, 0, none⟩)), (4, .pointer (some ⟨b3, 0, none⟩)), (104, .int .i64 p.idx), (106, .pointer (some ⟨yb, 1, none⟩))] (by kernel_rfl) ?_
    refine gl_st (st_storeK (v := .int .i64 p.idx) 0 rfl rfl rfl hH rfl rfl rfl (by kernel_rfl) rfl (by simp) ?_)
    clear hH; intro w13 hH
    refine gl_done rfl ?_
    refine sw_next ?_
    refine sw_seq ?_
    refine sw_region ?_  -- R12 ref.go:151
    refine gl_ops 2 [(0, .pointer (some ⟨yb, 0, none⟩)), (3, .pointer (some ⟨b1, 0, none⟩)), (4, .pointer (some ⟨b3, 0, none⟩)), (107, .pointer (some ⟨yb, 0, none⟩)), (108, .pointer (some ⟨b1, 1, none⟩))] (by kernel_rfl) ?_
    refine gl_q rfl rfl rfl (rd_loadK 3 (by kernel_rfl) hH rfl rfl rfl) ?_
    refine gl_ops 2 [(0, .pointer (some ⟨yb, 0, none⟩)), (3, .pointer (some ⟨b1, 0, none⟩)), (4, .pointer (some ⟨b3, 0, none⟩)), (109, .int .i64 p.term), (111, .pointer (some ⟨yb, 2, none⟩))] (by kernel_rfl) ?_
    refine gl_st (st_storeK (v := .int .i64 p.term) 0 rfl rfl rfl hH rfl rfl rfl (by kernel_rfl) rfl (by simp) ?_)
    clear hH; intro w14 hH
    refine gl_done rfl ?_
    refine sw_next ?_
    refine sw_seq ?_
    refine sw_region ?_  -- R13 ref.go:152
    refine gl_ops 2 [(0, .pointer (some ⟨yb, 0, none⟩)), (3, .pointer (some ⟨b1, 0, none⟩)), (4, .pointer (some ⟨b3, 0, none⟩)), (112, .pointer (some ⟨yb, 0, none⟩)), (113, .pointer (some ⟨b1, 3, none⟩))] (by kernel_rfl) ?_
    refine gl_q rfl rfl rfl (rd_loadK 3 (by kernel_rfl) hH rfl rfl rfl) ?_
    refine gl_cv 114 (.int .i64 ((p.many.toNat : Nat) : Int)) (by rw [hmm]) rfl ?_
    refine gl_st (st_makeH (e := 9) (zv := .string (bs [])) (bytes := 16) rfl rfl rfl (by kernel_rfl) (by kernel_rfl) rfl p.many.toNat rfl rfl (by omega) (by unfold maxLen; omega) hH ?_)
    clear hH; intro v15 w16 hH
    obtain ⟨A19, c20, rfl, hl21, hm22⟩ := hH.row_form 5 rfl
    replace hH := hH.row_eq 5 (l' := p.many.toNat) (xs' := rowsL ⟨some (p.term, p.idx), p.many.toNat, []⟩) rfl (rfl) (rowsL_new _ _)
    refine gl_ops 2 [(0, .pointer (some ⟨yb, 0, none⟩)), (3, .pointer (some ⟨b1, 0, none⟩)), (4, .pointer (some ⟨b3, 0, none⟩)), (115, .slice A19 p.many.toNat c20), (117, .pointer (some ⟨yb, 4, none⟩))] (by kernel_rfl) ?_
    refine gl_st (st_storeK (v := .slice A19 p.many.toNat c20) 0 rfl rfl rfl hH rfl rfl rfl (by kernel_rfl) rfl (by simp) ?_)
    clear hH; intro w23 hH
    refine gl_done rfl ?_
    refine sw_next ?_
    refine sw_region ?_  -- R14 ref.go:153
    refine gl_ops 2 [(0, .pointer (some ⟨yb, 0, none⟩)), (3, .pointer (some ⟨b1, 0, none⟩)), (4, .pointer (some ⟨b3, 0, none⟩)), (118, .pointer (some ⟨yb, 0, none⟩)), (119, .pointer (some ⟨b1, 3, none⟩))] (by kernel_rfl) ?_
    refine gl_q rfl rfl rfl (rd_loadK 3 (by kernel_rfl) hH rfl rfl rfl) ?_
    refine gl_cv 120 (.int .i64 ((p.many.toNat : Nat) : Int)) (by rw [hmm]) rfl ?_
    refine gl_st (st_makeH (e := 4) (zv := .bool false) (bytes := 1) rfl rfl rfl (by kernel_rfl) (by kernel_rfl) rfl p.many.toNat rfl rfl (by omega) (by unfold maxLen; omega) hH ?_)
    clear hH; intro v24 w25 hH
    obtain ⟨A28, c29, rfl, hl30, hm31⟩ := hH.row_form 6 rfl
    replace hH : Hp w w25 (off w (blksOf [.grp (rbxO yb (.slice Ar 0 cr) (.slice At 0 ct) ⟨none, 0, []⟩)])) (blksOf [.grp (rbxO yb (.slice Ar 0 cr) (.slice At 0 ct) ⟨none, 0, []⟩)]) [.blk yb 58 [.bool true, .int .i64 p.idx, .int .i64 p.term, .bool true, .slice A19 p.many.toNat c20, .slice At 0 ct], .row (.slice Ar 0 cr) 9 1 0 (rowsL ⟨none, 0, []⟩), .row (.slice At 0 ct) 4 1 0 (thereL ⟨none, 0, []⟩), .blk b1 48 [.int .i64 p.idx, .int .i64 p.term, .int .i64 p.n, .int .i64 p.many, .slice Ab p.bytes.length cb], .blk b3 24 [.int .i64 0, .int .i64 0, .slice none 0 0, .slice none 0 0], .row (.slice A19 p.many.toNat c20) 9 1 p.many.toNat (rowsL ⟨some (p.term, p.idx), p.many.toNat, []⟩), .row (.slice A28 p.many.toNat c29) 4 1 p.many.toNat (List.replicate p.many.toNat (.bool false))] := hH
    replace hH := hH.row_eq 6 (l' := p.many.toNat) (xs' := thereL ⟨some (p.term, p.idx), p.many.toNat, []⟩) rfl (rfl) (thereL_new _ _)
    refine gl_ops 2 [(0, .pointer (some ⟨yb, 0, none⟩)), (3, .pointer (some ⟨b1, 0, none⟩)), (4, .pointer (some ⟨b3, 0, none⟩)), (121, .slice A28 p.many.toNat c29), (123, .pointer (some ⟨yb, 5, none⟩))] (by kernel_rfl) ?_
    refine gl_st (st_storeK (v := .slice A28 p.many.toNat c29) 0 rfl rfl rfl hH rfl rfl rfl (by kernel_rfl) rfl (by simp) ?_)
    clear hH; intro w32 hH
    replace hH : Hp w w32 (off w (blksOf [.grp (rbxO yb (.slice Ar 0 cr) (.slice At 0 ct) ⟨none, 0, []⟩)])) (blksOf [.grp (rbxO yb (.slice Ar 0 cr) (.slice At 0 ct) ⟨none, 0, []⟩)]) [.blk yb 58 [.bool true, .int .i64 p.idx, .int .i64 p.term, .bool true, .slice A19 p.many.toNat c20, .slice A28 p.many.toNat c29], .row (.slice Ar 0 cr) 9 1 0 (rowsL ⟨none, 0, []⟩), .row (.slice At 0 ct) 4 1 0 (thereL ⟨none, 0, []⟩), .blk b1 48 [.int .i64 p.idx, .int .i64 p.term, .int .i64 p.n, .int .i64 p.many, .slice Ab p.bytes.length cb], .blk b3 24 [.int .i64 0, .int .i64 0, .slice none 0 0, .slice none 0 0], .row (.slice A19 p.many.toNat c20) 9 1 p.many.toNat (rowsL ⟨some (p.term, p.idx), p.many.toNat, []⟩), .row (.slice A28 p.many.toNat c29) 4 1 p.many.toNat (thereL ⟨some (p.term, p.idx), p.many.toNat, []⟩)] := hH
    refine gl_done rfl ?_
    refine cut_end ([], A19, c20, A28, c29) (Sub.of_eq (by kernel_rfl)) ?_
    replace hH : Hp w w32 (off w (blksOf [.grp (rbxO yb (.slice Ar 0 cr) (.slice At 0 ct) ⟨none, 0, []⟩)])) (blksOf [.grp (rbxO yb (.slice Ar 0 cr) (.slice At 0 ct) ⟨none, 0, []⟩)]) [.blk yb 58 [.bool true, .int .i64 p.idx, .int .i64 p.term, .bool true, .slice A19 p.many.toNat c20, .slice A28 p.many.toNat c29], .row (.slice Ar 0 cr) 9 1 0 (rowsL ⟨none, 0, []⟩), .row (.slice At 0 ct) 4 1 0 (thereL ⟨none, 0, []⟩), .blk b1 48 [.int .i64 p.idx, .int .i64 p.term, .int .i64 p.n, .int .i64 p.many, .slice Ab p.bytes.length cb], .blk b3 24 [.int .i64 0, .int .i64 0, .slice none 0 0, .slice none 0 0], .row (.slice A19 p.many.toNat c20) 9 1 p.many.toNat (rowsL ⟨some (p.term, p.idx), p.many.toNat, []⟩), .row (.slice A28 p.many.toNat c29) 4 1 p.many.toNat (thereL ⟨some (p.term, p.idx), p.many.toNat, []⟩)] := hH
    replace hH := hH.pick [0, 5, 6, 3, 4, 1, 2] (by kernel_rfl) (os' := [.blk yb 58 [.bool true, .int .i64 p.idx, .int .i64 p.term, .bool true, .slice A19 p.many.toNat c20, .slice A28 p.many.toNat c29], .row (.slice A19 p.many.toNat c20) 9 1 p.many.toNat (rowsL ⟨some (p.term, p.idx), p.many.toNat, []⟩), .row (.slice A28 p.many.toNat c29) 4 1 p.many.toNat (thereL ⟨some (p.term, p.idx), p.many.toNat, []⟩), .blk b1 48 [.int .i64 p.idx, .int .i64 p.term, .int .i64 p.n, .int .i64 p.many, .slice Ab p.bytes.length cb], .blk b3 24 [.int .i64 0, .int .i64 0, .slice none 0 0, .slice none 0 0], .row (.slice Ar 0 cr) 9 1 0 (rowsL ⟨none, 0, []⟩), .row (.slice At 0 ct) 4 1 0 (thereL ⟨none, 0, []⟩)]) (by kernel_rfl)
    replace hH := (hH.sublist (.cons_cons _ (.cons_cons _ (.cons_cons _ (.cons_cons _ (.cons_cons _ (List.nil_sublist _)))))))
    replace hH : Hp w w32 (off w (blksOf [.grp (rbxO yb (.slice Ar 0 cr) (.slice At 0 ct) ⟨none, 0, []⟩)])) (blksOf [.grp (rbxO yb (.slice Ar 0 cr) (.slice At 0 ct) ⟨none, 0, []⟩)]) [.blk yb 58 [.bool true, .int .i64 p.idx, .int .i64 p.term, .bool true, .slice A19 p.many.toNat c20, .slice A28 p.many.toNat c29], .row (.slice A19 p.many.toNat c20) 9 1 p.many.toNat (rowsL ⟨some (p.term, p.idx), p.many.toNat, []⟩), .row (.slice A28 p.many.toNat c29) 4 1 p.many.toNat (thereL ⟨some (p.term, p.idx), p.many.toNat, []⟩), .blk b1 48 [.int .i64 p.idx, .int .i64 p.term, .int .i64 p.n, .int .i64 p.many, .slice Ab p.bytes.length cb], .blk b3 24 [.int .i64 0, .int .i64 0, .slice none 0 0, .slice none 0 0]] := hH
    exact ⟨rfl, by simp, keys_nil _, hH⟩
  clear hH
  rintro ⟨rs2, A2, c2, A3, c3⟩ w33 ⟨hbase, hsh2, hkeys, hH⟩
  have hsh3 := withP_short hsh2 q6 nv
  have hkeys3 := keys_with hkeys (p := p) (by omega) (by omega) nv
  refine sw_keep [(0, .pointer (some ⟨yb, 0, none⟩)), (3, .pointer (some ⟨b1, 0, none⟩)), (4, .pointer (some ⟨b3, 0, none⟩))] (by kernel_rfl) ?_
  refine sw_seq ?_
  refine sw_draw (by kernel_rfl) (fun w_ => Hp w w_ (off w (blksOf [.grp (rbxO yb (.slice Ar 0 cr) (.slice At 0 ct) ⟨none, 0, []⟩)])) (blksOf [.grp (rbxO yb (.slice Ar 0 cr) (.slice At 0 ct) ⟨none, 0, []⟩)]) [.blk yb 58 [.bool true, .int .i64 p.idx, .int .i64 p.term, .bool true, .slice A2 p.many.toNat c2, .slice A3 p.many.toNat c3], .row (.slice A3 p.many.toNat c3) 4 1 p.many.toNat (thereL ⟨some (p.term, p.idx), p.many.toNat, rs2⟩), .blk b1 48 [.int .i64 p.idx, .int .i64 p.term, .int .i64 p.n, .int .i64 p.many, .slice Ab p.bytes.length cb], .blk b3 24 [.int .i64 0, .int .i64 0, .slice none 0 0, .slice none 0 0]]) ?_  -- R15 ref.go:155
  replace hH := hH.drew
  generalize { w33 with drawn := w33.drawn + 1 } = w34 at hH ⊢
  refine gd_pure 0 rfl (by kernel_rfl) (PQ.th PQ.body) (hH.sublist (.cons_cons _ (.cons _ (.cons_cons _ (.cons_cons _ (.cons_cons _ (List.nil_sublist _))))))) rfl rfl (.pointer (some ⟨yb, 0, none⟩)) (by kernel_rfl) ?_
  refine gd_pure 1 rfl (by kernel_rfl) (PQ.th PQ.body) (hH.sublist (.cons_cons _ (.cons _ (.cons_cons _ (.cons_cons _ (.cons_cons _ (List.nil_sublist _))))))) rfl rfl (.pointer (some ⟨yb, 0, none⟩)) (by kernel_rfl) ?_
  refine gd_pure 2 rfl (by kernel_rfl) (PQ.th PQ.body) (hH.sublist (.cons_cons _ (.cons _ (.cons_cons _ (.cons_cons _ (.cons_cons _ (List.nil_sublist _))))))) rfl rfl (.pointer (some ⟨yb, 4, none⟩)) (by kernel_rfl) ?_
  refine gd_keep [(0, .pointer (some ⟨yb, 0, none⟩)), (3, .pointer (some ⟨b1, 0, none⟩)), (4, .pointer (some ⟨b3, 0, none⟩)), (126, .pointer (some ⟨yb, 4, none⟩))] (by kernel_rfl) ?_
  refine gd_q 3 rfl (by kernel_rfl) (PQ.th PQ.body) (hH.sublist (.cons_cons _ (.cons _ (.cons_cons _ (.cons_cons _ (.cons_cons _ (List.nil_sublist _))))))) rfl rfl (fun w_ hS => (rd_loadK 0 (by kernel_rfl) hS rfl rfl rfl)) ?_
  refine gd_pure 4 rfl (by kernel_rfl) (PQ.th PQ.body) (hH.sublist (.cons_cons _ (.cons _ (.cons_cons _ (.cons_cons _ (.cons_cons _ (List.nil_sublist _))))))) rfl rfl (.pointer (some ⟨b1, 2, none⟩)) (by kernel_rfl) ?_
  refine gd_q 5 rfl (by kernel_rfl) (PQ.th PQ.body) (hH.sublist (.cons_cons _ (.cons _ (.cons_cons _ (.cons_cons _ (.cons_cons _ (List.nil_sublist _))))))) rfl rfl (fun w_ hS => (rd_loadK 2 (by kernel_rfl) hS rfl rfl rfl)) ?_
  refine gd_cv 129 (.int .i64 ((k : Nat) : Int)) (by rw [hk]) rfl ?_
  refine gd_keep [(0, .pointer (some ⟨yb, 0, none⟩)), (3, .pointer (some ⟨b1, 0, none⟩)), (4, .pointer (some ⟨b3, 0, none⟩)), (127, .slice A2 p.many.toNat c2), (129, .int .i64 ((k : Nat) : Int))] (by kernel_rfl) ?_
  refine gd_pure 6 rfl (by kernel_rfl) (PQ.th PQ.body) (hH.sublist (.cons_cons _ (.cons _ (.cons_cons _ (.cons_cons _ (.cons_cons _ (List.nil_sublist _))))))) rfl rfl (.pointer (some ⟨yb, 0, none⟩)) (by kernel_rfl) ?_
  refine gd_q 7 rfl (by kernel_rfl) (PQ.th PQ.body) (hH.sublist (.cons_cons _ (.cons _ (.cons_cons _ (.cons_cons _ (.cons_cons _ (List.nil_sublist _))))))) rfl rfl (fun w_ hS => (rd_loadKA (m := 5) 2 (by kernel_rfl) hS rfl rfl (by kernel_rfl) [.int .i64 p.idx, .int .i64 p.term, .int .i64 p.n, .int .i64 p.many, .slice Ab p.bytes.length cb] rfl rfl)) ?_
  refine gd_st 8 (by kernel_rfl) (st_call rfl rfl rfl (by kernel_rfl) rfl (RRow_ct yb _ _ ⟨some (p.term, p.idx), p.many.toNat, rs2⟩ p _ k _ (hH.blk_cell 0 rfl rfl) (hH.blk_cell 0 rfl rfl) (hH.row_reads 1 rfl) (hH.row_reads 2 rfl) (hb.mono hH.zin) hk hkm) ?_)
  rintro _ w35 ⟨rfl, hF36⟩
  replace hH := hH.call hF36; clear hF36
  refine ⟨hH.sublist (.cons_cons _ (.cons _ (.cons_cons _ (.cons_cons _ (.cons_cons _ (List.nil_sublist _)))))), ?_⟩
  refine gd_cv 132 (.string (bs (rowOf (withP rs2 p nv) p.n))) (by rw [rowOf_with, if_pos rfl]) rfl ?_
  refine gd_keep [(0, .pointer (some ⟨yb, 0, none⟩)), (3, .pointer (some ⟨b1, 0, none⟩)), (4, .pointer (some ⟨b3, 0, none⟩)), (127, .slice A2 p.many.toNat c2), (129, .int .i64 ((k : Nat) : Int)), (132, .string (bs (rowOf (withP rs2 p nv) p.n)))] (by kernel_rfl) ?_
  obtain ⟨b38, hb37, hi39⟩ := hH.row_idx 1 rfl k (by omega)
  refine gd_q 9 rfl (by kernel_rfl) (PQ.th PQ.body) (hH.sublist (.cons_cons _ (.cons _ (.cons_cons _ (.cons_cons _ (.cons_cons _ (List.nil_sublist _))))))) rfl rfl (fun w_ hS => (rd_idx (e := 9) (m := 1) (by kernel_rfl) (by kernel_rfl) rfl rfl hi39)) ?_
  refine gd_st 10 (by kernel_rfl) (st_storeO (u := .string (bs (rowOf (withP rs2 p nv) p.n))) 1 rfl rfl rfl hH rfl rfl rfl (by kernel_rfl) rfl hb37 (by simp [rowsL]; omega) ?_)
  clear hH; intro w40 hH
  replace hH := hH.row_eq 1 (l' := p.many.toNat) (xs' := rowsL ⟨some (p.term, p.idx), p.many.toNat, (withP rs2 p nv)⟩) rfl (rfl) (rowsL_set hk nv)
  refine ⟨hH.sublist (.cons_cons _ (.cons _ (.cons_cons _ (.cons_cons _ (.cons_cons _ (List.nil_sublist _)))))), ?_⟩
  refine gd_keep [(0, .pointer (some ⟨yb, 0, none⟩)), (3, .pointer (some ⟨b1, 0, none⟩)), (4, .pointer (some ⟨b3, 0, none⟩))] (by kernel_rfl) ?_
  refine gd_done (by kernel_rfl) ?_
  refine at_sub [(0, .pointer (some ⟨yb, 0, none⟩)), (3, .pointer (some ⟨b1, 0, none⟩)), (4, .pointer (some ⟨b3, 0, none⟩))] (Sub.of_eq (by kernel_rfl)) ?_
  refine sw_next ?_
  refine sw_seq ?_
  refine sw_draw (by kernel_rfl) (fun w_ => Hp w w_ (off w (blksOf [.grp (rbxO yb (.slice Ar 0 cr) (.slice At 0 ct) ⟨none, 0, []⟩)])) (blksOf [.grp (rbxO yb (.slice Ar 0 cr) (.slice At 0 ct) ⟨none, 0, []⟩)]) [.blk yb 58 [.bool true, .int .i64 p.idx, .int .i64 p.term, .bool true, .slice A2 p.many.toNat c2, .slice A3 p.many.toNat c3], .row (.slice A2 p.many.toNat c2) 9 1 p.many.toNat (rowsL ⟨some (p.term, p.idx), p.many.toNat, (withP rs2 p nv)⟩), .blk b1 48 [.int .i64 p.idx, .int .i64 p.term, .int .i64 p.n, .int .i64 p.many, .slice Ab p.bytes.length cb], .blk b3 24 [.int .i64 0, .int .i64 0, .slice none 0 0, .slice none 0 0]]) ?_  -- R16 ref.go:156
  replace hH := hH.drew
  generalize { w40 with drawn := w40.drawn + 1 } = w41 at hH ⊢
  refine gd_pure 0 rfl (by kernel_rfl) (PQ.th PQ.body) (hH.sublist (.cons_cons _ (.cons_cons _ (.cons _ (.cons_cons _ (.cons_cons _ (List.nil_sublist _))))))) rfl rfl (.pointer (some ⟨yb, 0, none⟩)) (by kernel_rfl) ?_
  refine gd_pure 1 rfl (by kernel_rfl) (PQ.th PQ.body) (hH.sublist (.cons_cons _ (.cons_cons _ (.cons _ (.cons_cons _ (.cons_cons _ (List.nil_sublist _))))))) rfl rfl (.pointer (some ⟨yb, 0, none⟩)) (by kernel_rfl) ?_
  refine gd_pure 2 rfl (by kernel_rfl) (PQ.th PQ.body) (hH.sublist (.cons_cons _ (.cons_cons _ (.cons _ (.cons_cons _ (.cons_cons _ (List.nil_sublist _))))))) rfl rfl (.pointer (some ⟨yb, 5, none⟩)) (by kernel_rfl) ?_
  refine gd_keep [(0, .pointer (some ⟨yb, 0, none⟩)), (3, .pointer (some ⟨b1, 0, none⟩)), (4, .pointer (some ⟨b3, 0, none⟩)), (136, .pointer (some ⟨yb, 5, none⟩))] (by kernel_rfl) ?_
  refine gd_q 3 rfl (by kernel_rfl) (PQ.th PQ.body) (hH.sublist (.cons_cons _ (.cons_cons _ (.cons _ (.cons_cons _ (.cons_cons _ (List.nil_sublist _))))))) rfl rfl (fun w_ hS => (rd_loadK 0 (by kernel_rfl) hS rfl rfl rfl)) ?_
  refine gd_pure 4 rfl (by kernel_rfl) (PQ.th PQ.body) (hH.sublist (.cons_cons _ (.cons_cons _ (.cons _ (.cons_cons _ (.cons_cons _ (List.nil_sublist _))))))) rfl rfl (.pointer (some ⟨b1, 2, none⟩)) (by kernel_rfl) ?_
  refine gd_q 5 rfl (by kernel_rfl) (PQ.th PQ.body) (hH.sublist (.cons_cons _ (.cons_cons _ (.cons _ (.cons_cons _ (.cons_cons _ (List.nil_sublist _))))))) rfl rfl (fun w_ hS => (rd_loadK 2 (by kernel_rfl) hS rfl rfl rfl)) ?_
  refine gd_cv 139 (.int .i64 ((k : Nat) : Int)) (by rw [hk]) rfl ?_
  refine gd_keep [(0, .pointer (some ⟨yb, 0, none⟩)), (3, .pointer (some ⟨b1, 0, none⟩)), (4, .pointer (some ⟨b3, 0, none⟩)), (137, .slice A3 p.many.toNat c3), (139, .int .i64 ((k : Nat) : Int))] (by kernel_rfl) ?_
  obtain ⟨b43, hb42, hi44⟩ := hH.row_idx 2 rfl k (by omega)
  refine gd_q 6 rfl (by kernel_rfl) (PQ.th PQ.body) (hH.sublist (.cons_cons _ (.cons_cons _ (.cons _ (.cons_cons _ (.cons_cons _ (List.nil_sublist _))))))) rfl rfl (fun w_ hS => (rd_idx (e := 4) (m := 1) (by kernel_rfl) (by kernel_rfl) rfl rfl hi44)) ?_
  refine gd_st 7 (by kernel_rfl) (st_storeO (u := .bool true) 2 rfl rfl rfl hH rfl rfl rfl (by kernel_rfl) rfl hb42 (by simp [thereL]; omega) ?_)
  clear hH; intro w45 hH
  replace hH := hH.row_eq 2 (l' := p.many.toNat) (xs' := thereL ⟨some (p.term, p.idx), p.many.toNat, (withP rs2 p nv)⟩) rfl (rfl) (thereL_set hk nv)
  refine ⟨hH.sublist (.cons_cons _ (.cons_cons _ (.cons _ (.cons_cons _ (.cons_cons _ (List.nil_sublist _)))))), ?_⟩
  refine gd_keep [(0, .pointer (some ⟨yb, 0, none⟩)), (3, .pointer (some ⟨b1, 0, none⟩)), (4, .pointer (some ⟨b3, 0, none⟩))] (by kernel_rfl) ?_
  refine gd_done (by kernel_rfl) ?_
  refine at_sub [(0, .pointer (some ⟨yb, 0, none⟩)), (3, .pointer (some ⟨b1, 0, none⟩)), (4, .pointer (some ⟨b3, 0, none⟩))] (Sub.of_eq (by kernel_rfl)) ?_
  refine sw_next ?_
  refine sw_seq ?_
  refine sw_region ?_  -- R17 ref.go:157
  refine gl_ops 1 [(0, .pointer (some ⟨yb, 0, none⟩)), (3, .pointer (some ⟨b1, 0, none⟩)), (4, .pointer (some ⟨b3, 0, none⟩)), (10, .string (bs []))] (by kernel_rfl) ?_
  refine gl_done rfl ?_
  refine sw_next ?_
  refine sw_seq ?_
  refine sw_seq ?_
  refine sw_region ?_  -- R18 ref.go:158
  refine gl_ops 1 [(0, .pointer (some ⟨yb, 0, none⟩)), (3, .pointer (some ⟨b1, 0, none⟩)), (4, .pointer (some ⟨b3, 0, none⟩)), (10, .string (bs [])), (11, .int .i64 0)] (by kernel_rfl) ?_
  refine gl_done rfl ?_
  refine sw_next ?_
  refine sw_block ?_
  refine sw_loop (γ := Nat) (fun i => [(0, .pointer (some ⟨yb, 0, none⟩)), (3, .pointer (some ⟨b1, 0, none⟩)), (4, .pointer (some ⟨b3, 0, none⟩)), (10, .string (bs (joinI (withP rs2 p nv) i))), (11, .int .i64 ((i : Nat) : Int))]) (fun i w_ => (i ≤ p.many.toNat) ∧ (∀ j : Nat, j < i → has (withP rs2 p nv) (j : Int) = true) ∧ Hp w w_ (off w (blksOf [.grp (rbxO yb (.slice Ar 0 cr) (.slice At 0 ct) ⟨none, 0, []⟩)])) (blksOf [.grp (rbxO yb (.slice Ar 0 cr) (.slice At 0 ct) ⟨none, 0, []⟩)]) [.blk yb 58 [.bool true, .int .i64 p.idx, .int .i64 p.term, .bool true, .slice A2 p.many.toNat c2, .slice A3 p.many.toNat c3], .row (.slice A2 p.many.toNat c2) 9 1 p.many.toNat (rowsL ⟨some (p.term, p.idx), p.many.toNat, (withP rs2 p nv)⟩), .row (.slice A3 p.many.toNat c3) 4 1 p.many.toNat (thereL ⟨some (p.term, p.idx), p.many.toNat, (withP rs2 p nv)⟩), .blk b1 48 [.int .i64 p.idx, .int .i64 p.term, .int .i64 p.n, .int .i64 p.many, .slice Ab p.bytes.length cb], .blk b3 24 [.int .i64 0, .int .i64 0, .slice none 0 0, .slice none 0 0]]) (fun i => p.many.toNat - i) (0) (Sub.of_eq (by kernel_rfl)) ?_ ?_
  · exact ⟨by omega, fun j hj => absurd hj (by omega), hH⟩
  clear hH
  rintro i w46 ⟨hi, hall, hH⟩
  refine sw_keep [(0, .pointer (some ⟨yb, 0, none⟩)), (3, .pointer (some ⟨b1, 0, none⟩)), (4, .pointer (some ⟨b3, 0, none⟩)), (10, .string (bs (joinI (withP rs2 p nv) i))), (11, .int .i64 ((i : Nat) : Int))] (by kernel_rfl) ?_
  refine sw_seq ?_
  refine sw_seq ?_
  refine sw_region ?_  -- R19 ref.go:158
  refine gl_ops 4 [(0, .pointer (some ⟨yb, 0, none⟩)), (3, .pointer (some ⟨b1, 0, none⟩)), (4, .pointer (some ⟨b3, 0, none⟩)), (10, .string (bs (joinI (withP rs2 p nv) i))), (11, .int .i64 ((i : Nat) : Int)), (141, .int .i64 ((i : Nat) : Int)), (144, .pointer (some ⟨yb, 4, none⟩))] (by kernel_rfl) ?_
  refine gl_q rfl rfl rfl (rd_loadK 0 (by kernel_rfl) hH rfl rfl rfl) ?_
  refine gl_q rfl rfl rfl (rd_len (e := 9) (by kernel_rfl) rfl) ?_
  refine gl_ops 1 [(0, .pointer (some ⟨yb, 0, none⟩)), (3, .pointer (some ⟨b1, 0, none⟩)), (4, .pointer (some ⟨b3, 0, none⟩)), (10, .string (bs (joinI (withP rs2 p nv) i))), (11, .int .i64 ((i : Nat) : Int)), (147, .bool (decide (((i : Nat) : Int) < ((p.many.toNat : Nat) : Int))))] (by kernel_rfl) ?_
  refine gl_done rfl ?_
  refine sw_next ?_
  refine sw_cond rfl rfl (fun hc4 => ?_) (fun hc4 => ?_)
  ·
    try simp only [decide_eq_true_eq, beq_iff_eq, bne_iff_ne, ne_eq, Bool.not_eq_true', beq_eq_false_iff_ne, bne_eq_false_iff_eq, decide_eq_false_iff_not, Int.not_lt, Int.not_le] at hc4
    refine sw_skip ?_
    refine sw_next ?_
    refine sw_seq ?_
    refine sw_block ?_
    refine sw_seq ?_
    refine sw_seq ?_
    refine sw_region ?_  -- R21 ref.go:159
    refine gl_ops 3 [(0, .pointer (some ⟨yb, 0, none⟩)), (3, .pointer (some ⟨b1, 0, none⟩)), (4, .pointer (some ⟨b3, 0, none⟩)), (10, .string (bs (joinI (withP rs2 p nv) i))), (11, .int .i64 ((i : Nat) : Int)), (152, .pointer (some ⟨yb, 5, none⟩))] (by kernel_rfl) ?_
    refine gl_q rfl rfl rfl (rd_loadK 0 (by kernel_rfl) hH rfl rfl rfl) ?_
    obtain ⟨b48, hb47, hi49⟩ := hH.row_idx 2 rfl i (by omega)
    refine gl_ops 1 [(0, .pointer (some ⟨yb, 0, none⟩)), (3, .pointer (some ⟨b1, 0, none⟩)), (4, .pointer (some ⟨b3, 0, none⟩)), (10, .string (bs (joinI (withP rs2 p nv) i))), (11, .int .i64 ((i : Nat) : Int)), (153, .slice A3 p.many.toNat c3), (154, .int .i64 ((i : Nat) : Int))] (by kernel_rfl) ?_
    refine gl_q rfl rfl rfl (rd_idx (e := 4) (m := 1) (by kernel_rfl) (by kernel_rfl) rfl rfl hi49) ?_
    refine gl_q rfl rfl rfl (rd_loadO 2 (by kernel_rfl) hH rfl rfl hb47 (thereL_at ⟨some (p.term, p.idx), p.many.toNat, (withP rs2 p nv)⟩ i (show i < p.many.toNat by omega))) ?_
    refine gl_ops 1 [(0, .pointer (some ⟨yb, 0, none⟩)), (3, .pointer (some ⟨b1, 0, none⟩)), (4, .pointer (some ⟨b3, 0, none⟩)), (10, .string (bs (joinI (withP rs2 p nv) i))), (11, .int .i64 ((i : Nat) : Int)), (157, .bool (!(has (withP rs2 p nv) ((i : Nat) : Int))))] (by kernel_rfl) ?_
    refine gl_done rfl ?_
    refine sw_next ?_
    refine sw_cond rfl rfl (fun hc5 => ?_) (fun hc5 => ?_)
    ·
      try simp only [decide_eq_true_eq, beq_iff_eq, bne_iff_ne, ne_eq, Bool.not_eq_true', beq_eq_false_iff_ne, bne_eq_false_iff_eq, decide_eq_false_iff_not, Int.not_lt, Int.not_le] at hc5
      have hnot := hc5
      refine sw_seq ?_
      refine sw_region ?_  -- R22 ref.go:160
      refine gl_ops 1 [(4, .pointer (some ⟨b3, 0, none⟩)), (158, .agg #[.int .i64 0, .int .i64 0, .slice none 0 0, .slice none 0 0])] (by kernel_rfl) ?_
      refine gl_st (st_storeKA (vs := [.int .i64 0, .int .i64 0, .slice none 0 0, .slice none 0 0]) 4 rfl rfl rfl hH rfl rfl (by kernel_rfl) (by kernel_rfl) rfl (by simp) [.int .i64 0, .int .i64 0, .slice none 0 0, .slice none 0 0] rfl ?_)
      clear hH; intro w50 hH
      refine gl_ops 2 [(4, .pointer (some ⟨b3, 0, none⟩)), (5, .bool false), (6, .int .i64 0)] (by kernel_rfl) ?_
      refine gl_done rfl ?_
      refine sw_next ?_
      refine sw_ret ?_
      refine thR ?_
      refine bkR ?_
      refine thR ?_
      refine thR ?_
      refine bkR ?_
      refine thR ?_
      refine retC3 rfl (RS.cellA hH 4 (by kernel_rfl) rfl rfl (by kernel_rfl) [.int .i64 0, .int .i64 0, .slice none 0 0, .slice none 0 0] rfl rfl) (RS.tmp rfl) (RS.tmp rfl) ?_
      replace hH := (hH.sublist (.cons_cons _ (.cons_cons _ (.cons_cons _ (List.nil_sublist _)))))
      replace hH : Hp w w50 (off w (blksOf [.grp (rbxO yb (.slice Ar 0 cr) (.slice At 0 ct) ⟨none, 0, []⟩)])) (blksOf [.grp (rbxO yb (.slice Ar 0 cr) (.slice At 0 ct) ⟨none, 0, []⟩)]) [.blk yb 58 [.bool true, .int .i64 p.idx, .int .i64 p.term, .bool true, .slice A2 p.many.toNat c2, .slice A3 p.many.toNat c3], .row (.slice A2 p.many.toNat c2) 9 1 p.many.toNat (rowsL ⟨some (p.term, p.idx), p.many.toNat, (withP rs2 p nv)⟩), .row (.slice A3 p.many.toNat c3) 4 1 p.many.toNat (thereL ⟨some (p.term, p.idx), p.many.toNat, (withP rs2 p nv)⟩)] := hH
      replace hH := hH.cast (os' := [.blk yb 58 [.bool true, .int .i64 p.idx, .int .i64 p.term, .bool (decide (p.many.toNat ≠ 0)), .slice A2 p.many.toNat c2, .slice A3 p.many.toNat c3], .row (.slice A2 p.many.toNat c2) 9 1 p.many.toNat (rowsL ⟨some (p.term, p.idx), p.many.toNat, (withP rs2 p nv)⟩), .row (.slice A3 p.many.toNat c3) 4 1 p.many.toNat (thereL ⟨some (p.term, p.idx), p.many.toNat, (withP rs2 p nv)⟩)]) (by rw [show decide (p.many.toNat ≠ 0) = true from by simp; omega])
      replace hH : Hp w w50 (off w (blksOf [.grp (rbxO yb (.slice Ar 0 cr) (.slice At 0 ct) ⟨none, 0, []⟩)])) (blksOf [.grp (rbxO yb (.slice Ar 0 cr) (.slice At 0 ct) ⟨none, 0, []⟩)]) (rbxO yb (.slice A2 p.many.toNat c2) (.slice A3 p.many.toNat c3) ⟨some (p.term, p.idx), p.many.toNat, (withP rs2 p nv)⟩ ++ []) := hH
      have hr := putI_few (S := ⟨none, 0, []⟩) nv hc1 hbase (not_has hkeys3 (by omega) hnot)
      refine ⟨.slice A2 p.many.toNat c2, .slice A3 p.many.toNat c3, .slice none 0 0, .slice none 0 0, ?_⟩
      rw [hr]
      exact ⟨rfl, (((hH.close).nilRow 5 1).nilRow 5 1).turned⟩
    try simp only [decide_eq_false_iff_not, beq_eq_false_iff_ne, bne_eq_false_iff_eq, ne_eq, Decidable.not_not, Int.not_lt, Int.not_le, Bool.not_eq_false', beq_iff_eq, bne_iff_ne, decide_eq_true_eq] at hc5
    have hthere := hc5
    refine sw_skip ?_
    refine sw_next ?_
    refine sw_region ?_  -- R23 ref.go:162
    refine gl_ops 4 [(0, .pointer (some ⟨yb, 0, none⟩)), (3, .pointer (some ⟨b1, 0, none⟩)), (4, .pointer (some ⟨b3, 0, none⟩)), (11, .int .i64 ((i : Nat) : Int)), (159, .string (bs (joinI (withP rs2 p nv) i))), (162, .pointer (some ⟨yb, 4, none⟩))] (by kernel_rfl) ?_
    refine gl_q rfl rfl rfl (rd_loadK 0 (by kernel_rfl) hH rfl rfl rfl) ?_
    obtain ⟨b52, hb51, hi53⟩ := hH.row_idx 1 rfl i (by omega)
    refine gl_ops 1 [(0, .pointer (some ⟨yb, 0, none⟩)), (3, .pointer (some ⟨b1, 0, none⟩)), (4, .pointer (some ⟨b3, 0, none⟩)), (11, .int .i64 ((i : Nat) : Int)), (159, .string (bs (joinI (withP rs2 p nv) i))), (163, .slice A2 p.many.toNat c2), (164, .int .i64 ((i : Nat) : Int))] (by kernel_rfl) ?_
    refine gl_q rfl rfl rfl (rd_idx (e := 9) (m := 1) (by kernel_rfl) (by kernel_rfl) rfl rfl hi53) ?_
    refine gl_q rfl rfl rfl (rd_loadO 1 (by kernel_rfl) hH rfl rfl hb51 (rowsL_at ⟨some (p.term, p.idx), p.many.toNat, (withP rs2 p nv)⟩ i (show i < p.many.toNat by omega))) ?_
    refine gl_q rfl rfl rfl (rd_sadd (by kernel_rfl) rfl rfl (by have h1 := joinI_le hsh3 i; have h2 := rowOf_le hsh3 (i : Int); show _ + (rowOf (withP rs2 p nv) (i : Int)).length ≤ _; omega)) ?_
    refine gl_cv 167 (.string (bs (joinI (withP rs2 p nv) (i + 1)))) (by rw [joinI_snoc]) rfl ?_
    refine gl_ops 1 [(0, .pointer (some ⟨yb, 0, none⟩)), (3, .pointer (some ⟨b1, 0, none⟩)), (4, .pointer (some ⟨b3, 0, none⟩)), (10, .string (bs (joinI (withP rs2 p nv) (i + 1)))), (11, .int .i64 ((i : Nat) : Int))] (by kernel_rfl) ?_
    refine gl_done rfl ?_
    refine bkN ?_
    refine sw_next ?_
    refine sw_region ?_  -- R20 ref.go:158
    refine gl_ops 2 [(0, .pointer (some ⟨yb, 0, none⟩)), (3, .pointer (some ⟨b1, 0, none⟩)), (4, .pointer (some ⟨b3, 0, none⟩)), (10, .string (bs (joinI (withP rs2 p nv) (i + 1)))), (149, .int .i64 (IntKind.i64.wrap (((i : Nat) : Int) + 1)))] (by kernel_rfl) ?_
    refine gl_cv 149 (.int .i64 ((i + 1 : Nat) : Int)) (cv_i64 (by omega)) rfl ?_
    refine gl_ops 1 [(0, .pointer (some ⟨yb, 0, none⟩)), (3, .pointer (some ⟨b1, 0, none⟩)), (4, .pointer (some ⟨b3, 0, none⟩)), (10, .string (bs (joinI (withP rs2 p nv) (i + 1)))), (11, .int .i64 ((i + 1 : Nat) : Int))] (by kernel_rfl) ?_
    refine gl_done rfl ?_
    refine rnd_end (g := (i)) (i + 1) (by kernel_rfl) ?_ ?_
    · exact ⟨by omega, fun j hj => (Nat.lt_succ_iff_lt_or_eq.1 hj).elim (hall j) (fun e => e ▸ hthere), hH⟩
    · show p.many.toNat - (i + 1) < p.many.toNat - i; omega
  try simp only [decide_eq_false_iff_not, beq_eq_false_iff_ne, bne_eq_false_iff_eq, ne_eq, Decidable.not_not, Int.not_lt, Int.not_le, Bool.not_eq_false', beq_iff_eq, bne_iff_ne, decide_eq_true_eq] at hc4
  have hie : i = p.many.toNat := by omega
  have hj := joinI_le hsh3 i
  refine sw_exit ?_
  refine thX ?_
  refine thX ?_
  refine bkH ?_
  refine sw_next ?_
  refine sw_seq ?_
  refine sw_region ?_  -- R24 ref.go:164
  refine gl_ops 3 [(0, .pointer (some ⟨yb, 0, none⟩)), (3, .pointer (some ⟨b1, 0, none⟩)), (4, .pointer (some ⟨b3, 0, none⟩)), (10, .string (bs (joinI (withP rs2 p nv) i))), (170, .pointer (some ⟨yb, 3, none⟩))] (by kernel_rfl) ?_
  refine gl_st (st_storeK (v := .bool false) 0 rfl rfl rfl hH rfl rfl rfl (by kernel_rfl) rfl (by simp) ?_)
  clear hH; intro w54 hH
  refine gl_done rfl ?_
  refine sw_next ?_
  refine sw_seq ?_
  refine sw_region ?_  -- R25 ref.go:165
  refine gl_ops 3 [(0, .pointer (some ⟨yb, 0, none⟩)), (3, .pointer (some ⟨b1, 0, none⟩)), (4, .pointer (some ⟨b3, 0, none⟩)), (10, .string (bs (joinI (withP rs2 p nv) i))), (173, .pointer (some ⟨yb, 4, none⟩))] (by kernel_rfl) ?_
  refine gl_st (st_storeK (v := .slice none 0 0) 0 rfl rfl rfl hH rfl rfl rfl (by kernel_rfl) rfl (by simp) ?_)
  clear hH; intro w55 hH
  refine gl_done rfl ?_
  refine sw_next ?_
  refine sw_seq ?_
  refine sw_region ?_  -- R26 ref.go:166
  refine gl_ops 3 [(3, .pointer (some ⟨b1, 0, none⟩)), (4, .pointer (some ⟨b3, 0, none⟩)), (10, .string (bs (joinI (withP rs2 p nv) i))), (176, .pointer (some ⟨yb, 5, none⟩))] (by kernel_rfl) ?_
  refine gl_st (st_storeK (v := .slice none 0 0) 0 rfl rfl rfl hH rfl rfl rfl (by kernel_rfl) rfl (by simp) ?_)
  clear hH; intro w56 hH
  refine gl_done rfl ?_
  refine sw_next ?_
  refine sw_seq ?_
  refine sw_region ?_  -- R27 ref.go:167
  refine gl_ops 1 [(3, .pointer (some ⟨b1, 0, none⟩)), (4, .pointer (some ⟨b3, 0, none⟩)), (178, .string (bs (joinI (withP rs2 p nv) i)))] (by kernel_rfl) ?_
  refine gl_st (st_strB (e := 5) rfl rfl rfl (by kernel_rfl) (by kernel_rfl) (by kernel_rfl) hH rfl (by unfold maxLen; omega) ?_)
  clear hH; intro b57 c58 w59 hl60 hm61 hH
  refine gl_st (st_call rfl rfl rfl (by kernel_rfl) rfl (RRead_ct _ (joinI (withP rs2 p nv) i) _ (mkd_row hH 5 rfl (bv_length _) hl60 hm61) (by first | omega | (simp <;> omega))) ?_)
  rintro _ w66 ⟨v62, v63, rfl, hF67⟩
  replace hH := hH.call hF67; clear hF67
  obtain ⟨A68, c69, rfl, hl70, hm71⟩ := hH.row_form 6 rfl
  obtain ⟨A72, c73, rfl, hl74, hm75⟩ := hH.row_form 7 rfl
  replace hH : Hp w w66 (off w (blksOf [.grp (rbxO yb (.slice Ar 0 cr) (.slice At 0 ct) ⟨none, 0, []⟩)])) (blksOf [.grp (rbxO yb (.slice Ar 0 cr) (.slice At 0 ct) ⟨none, 0, []⟩)]) [.blk yb 58 [.bool true, .int .i64 p.idx, .int .i64 p.term, .bool false, .slice none 0 0, .slice none 0 0], .row (.slice A2 p.many.toNat c2) 9 1 p.many.toNat (rowsL ⟨some (p.term, p.idx), p.many.toNat, (withP rs2 p nv)⟩), .row (.slice A3 p.many.toNat c3) 4 1 p.many.toNat (thereL ⟨some (p.term, p.idx), p.many.toNat, (withP rs2 p nv)⟩), .blk b1 48 [.int .i64 p.idx, .int .i64 p.term, .int .i64 p.n, .int .i64 p.many, .slice Ab p.bytes.length cb], .blk b3 24 [.int .i64 0, .int .i64 0, .slice none 0 0, .slice none 0 0], .mkd b57 5 (bv (joinI (withP rs2 p nv) i)), .row (.slice A68 (((readV (joinI (withP rs2 p nv) i)).1.conf).length) c69) 5 1 (((readV (joinI (withP rs2 p nv) i)).1.conf).length) (bv ((readV (joinI (withP rs2 p nv) i)).1.conf)), .row (.slice A72 (((readV (joinI (withP rs2 p nv) i)).1.data).length) c73) 5 1 (((readV (joinI (withP rs2 p nv) i)).1.data).length) (bv ((readV (joinI (withP rs2 p nv) i)).1.data))] := hH
  refine gl_ops 3 [(3, .pointer (some ⟨b1, 0, none⟩)), (4, .pointer (some ⟨b3, 0, none⟩)), (181, .agg #[.int .i64 ((readV (joinI (withP rs2 p nv) i)).1.idx), .int .i64 ((readV (joinI (withP rs2 p nv) i)).1.term), .slice A68 (((readV (joinI (withP rs2 p nv) i)).1.conf).length) c69, .slice A72 (((readV (joinI (withP rs2 p nv) i)).1.data).length) c73]), (182, .int .i64 (((readV (joinI (withP rs2 p nv) i)).2 : Nat) : Int))] (by kernel_rfl) ?_
  refine gl_st (st_allocH rfl rfl rfl (cs := [.int .i64 0, .int .i64 0, .slice none 0 0, .slice none 0 0]) (by kernel_rfl) hH ?_)
  clear hH; intro b76 w77 hH
  replace hH : Hp w w77 (off w (blksOf [.grp (rbxO yb (.slice Ar 0 cr) (.slice At 0 ct) ⟨none, 0, []⟩)])) (blksOf [.grp (rbxO yb (.slice Ar 0 cr) (.slice At 0 ct) ⟨none, 0, []⟩)]) [.blk yb 58 [.bool true, .int .i64 p.idx, .int .i64 p.term, .bool false, .slice none 0 0, .slice none 0 0], .row (.slice A2 p.many.toNat c2) 9 1 p.many.toNat (rowsL ⟨some (p.term, p.idx), p.many.toNat, (withP rs2 p nv)⟩), .row (.slice A3 p.many.toNat c3) 4 1 p.many.toNat (thereL ⟨some (p.term, p.idx), p.many.toNat, (withP rs2 p nv)⟩), .blk b1 48 [.int .i64 p.idx, .int .i64 p.term, .int .i64 p.n, .int .i64 p.many, .slice Ab p.bytes.length cb], .blk b3 24 [.int .i64 0, .int .i64 0, .slice none 0 0, .slice none 0 0], .mkd b57 5 (bv (joinI (withP rs2 p nv) i)), .row (.slice A68 (((readV (joinI (withP rs2 p nv) i)).1.conf).length) c69) 5 1 (((readV (joinI (withP rs2 p nv) i)).1.conf).length) (bv ((readV (joinI (withP rs2 p nv) i)).1.conf)), .row (.slice A72 (((readV (joinI (withP rs2 p nv) i)).1.data).length) c73) 5 1 (((readV (joinI (withP rs2 p nv) i)).1.data).length) (bv ((readV (joinI (withP rs2 p nv) i)).1.data)), .blk b76 24 [.int .i64 0, .int .i64 0, .slice none 0 0, .slice none 0 0]] := hH
  refine gl_st (st_storeKA (vs := [.int .i64 ((readV (joinI (withP rs2 p nv) i)).1.idx), .int .i64 ((readV (joinI (withP rs2 p nv) i)).1.term), .slice A68 (((readV (joinI (withP rs2 p nv) i)).1.conf).length) c69, .slice A72 (((readV (joinI (withP rs2 p nv) i)).1.data).length) c73]) 8 rfl rfl rfl hH rfl rfl (by kernel_rfl) (by kernel_rfl) rfl (by simp) [.int .i64 ((readV (joinI (withP rs2 p nv) i)).1.idx), .int .i64 ((readV (joinI (withP rs2 p nv) i)).1.term), .slice A68 (((readV (joinI (withP rs2 p nv) i)).1.conf).length) c69, .slice A72 (((readV (joinI (withP rs2 p nv) i)).1.data).length) c73] rfl ?_)
  clear hH; intro w78 hH
  replace hH : Hp w w78 (off w (blksOf [.grp (rbxO yb (.slice Ar 0 cr) (.slice At 0 ct) ⟨none, 0, []⟩)])) (blksOf [.grp (rbxO yb (.slice Ar 0 cr) (.slice At 0 ct) ⟨none, 0, []⟩)]) [.blk yb 58 [.bool true, .int .i64 p.idx, .int .i64 p.term, .bool false, .slice none 0 0, .slice none 0 0], .row (.slice A2 p.many.toNat c2) 9 1 p.many.toNat (rowsL ⟨some (p.term, p.idx), p.many.toNat, (withP rs2 p nv)⟩), .row (.slice A3 p.many.toNat c3) 4 1 p.many.toNat (thereL ⟨some (p.term, p.idx), p.many.toNat, (withP rs2 p nv)⟩), .blk b1 48 [.int .i64 p.idx, .int .i64 p.term, .int .i64 p.n, .int .i64 p.many, .slice Ab p.bytes.length cb], .blk b3 24 [.int .i64 0, .int .i64 0, .slice none 0 0, .slice none 0 0], .mkd b57 5 (bv (joinI (withP rs2 p nv) i)), .row (.slice A68 (((readV (joinI (withP rs2 p nv) i)).1.conf).length) c69) 5 1 (((readV (joinI (withP rs2 p nv) i)).1.conf).length) (bv ((readV (joinI (withP rs2 p nv) i)).1.conf)), .row (.slice A72 (((readV (joinI (withP rs2 p nv) i)).1.data).length) c73) 5 1 (((readV (joinI (withP rs2 p nv) i)).1.data).length) (bv ((readV (joinI (withP rs2 p nv) i)).1.data)), .blk b76 24 [.int .i64 ((readV (joinI (withP rs2 p nv) i)).1.idx), .int .i64 ((readV (joinI (withP rs2 p nv) i)).1.term), .slice A68 (((readV (joinI (withP rs2 p nv) i)).1.conf).length) c69, .slice A72 (((readV (joinI (withP rs2 p nv) i)).1.data).length) c73]] := hH
  refine gl_ops 1 [(3, .pointer (some ⟨b1, 0, none⟩)), (4, .pointer (some ⟨b3, 0, none⟩)), (12, .pointer (some ⟨b76, 0, none⟩)), (13, .int .i64 (((readV (joinI (withP rs2 p nv) i)).2 : Nat) : Int))] (by kernel_rfl) ?_
  refine gl_done rfl ?_
  refine sw_next ?_
  refine sw_seq ?_
  refine sw_seq ?_
  refine sw_region ?_  -- R28 ref.go:168
  refine gl_ops 3 [(3, .pointer (some ⟨b1, 0, none⟩)), (4, .pointer (some ⟨b3, 0, none⟩)), (12, .pointer (some ⟨b76, 0, none⟩)), (185, .bool ((((readV (joinI (withP rs2 p nv) i)).2 : Nat) : Int) != (0 : Int)))] (by kernel_rfl) ?_
  refine gl_split 185 (b := (((readV (joinI (withP rs2 p nv) i)).2 : Nat) : Int) != (0 : Int)) rfl (fun hg6 => ?_) (fun hg6 => ?_)
  ·
    try simp only [decide_eq_true_eq, beq_iff_eq, bne_iff_ne, ne_eq, Bool.not_eq_true', beq_eq_false_iff_ne, bne_eq_false_iff_eq, decide_eq_false_iff_not, Int.not_lt, Int.not_le] at hg6
    have hrd : (readV (joinI (withP rs2 p nv) i)).2 ≠ 0 := by omega
    refine gl_ops 13 [(4, .pointer (some ⟨b3, 0, none⟩)), (12, .pointer (some ⟨b76, 0, none⟩)), (198, .bool true)] (by kernel_rfl) ?_
    refine gl_done rfl ?_
    refine sw_next ?_
    refine sw_true rfl rfl ?_
    refine sw_seq ?_
    refine sw_region ?_  -- R29 ref.go:169
    refine gl_ops 1 [(4, .pointer (some ⟨b3, 0, none⟩)), (199, .agg #[.int .i64 0, .int .i64 0, .slice none 0 0, .slice none 0 0])] (by kernel_rfl) ?_
    refine gl_st (st_storeKA (vs := [.int .i64 0, .int .i64 0, .slice none 0 0, .slice none 0 0]) 4 rfl rfl rfl hH rfl rfl (by kernel_rfl) (by kernel_rfl) rfl (by simp) [.int .i64 0, .int .i64 0, .slice none 0 0, .slice none 0 0] rfl ?_)
    clear hH; intro w79 hH
    replace hH : Hp w w79 (off w (blksOf [.grp (rbxO yb (.slice Ar 0 cr) (.slice At 0 ct) ⟨none, 0, []⟩)])) (blksOf [.grp (rbxO yb (.slice Ar 0 cr) (.slice At 0 ct) ⟨none, 0, []⟩)]) [.blk yb 58 [.bool true, .int .i64 p.idx, .int .i64 p.term, .bool false, .slice none 0 0, .slice none 0 0], .row (.slice A2 p.many.toNat c2) 9 1 p.many.toNat (rowsL ⟨some (p.term, p.idx), p.many.toNat, (withP rs2 p nv)⟩), .row (.slice A3 p.many.toNat c3) 4 1 p.many.toNat (thereL ⟨some (p.term, p.idx), p.many.toNat, (withP rs2 p nv)⟩), .blk b1 48 [.int .i64 p.idx, .int .i64 p.term, .int .i64 p.n, .int .i64 p.many, .slice Ab p.bytes.length cb], .blk b3 24 [.int .i64 0, .int .i64 0, .slice none 0 0, .slice none 0 0], .mkd b57 5 (bv (joinI (withP rs2 p nv) i)), .row (.slice A68 (((readV (joinI (withP rs2 p nv) i)).1.conf).length) c69) 5 1 (((readV (joinI (withP rs2 p nv) i)).1.conf).length) (bv ((readV (joinI (withP rs2 p nv) i)).1.conf)), .row (.slice A72 (((readV (joinI (withP rs2 p nv) i)).1.data).length) c73) 5 1 (((readV (joinI (withP rs2 p nv) i)).1.data).length) (bv ((readV (joinI (withP rs2 p nv) i)).1.data)), .blk b76 24 [.int .i64 ((readV (joinI (withP rs2 p nv) i)).1.idx), .int .i64 ((readV (joinI (withP rs2 p nv) i)).1.term), .slice A68 (((readV (joinI (withP rs2 p nv) i)).1.conf).length) c69, .slice A72 (((readV (joinI (withP rs2 p nv) i)).1.data).length) c73]] := hH
    refine gl_ops 2 [(4, .pointer (some ⟨b3, 0, none⟩)), (5, .bool false), (6, .int .i64 91)] (by kernel_rfl) ?_
    refine gl_done rfl ?_
    refine sw_next ?_
    refine sw_ret ?_
    refine thR ?_
    refine retC3 rfl (RS.cellA hH 4 (by kernel_rfl) rfl rfl (by kernel_rfl) [.int .i64 0, .int .i64 0, .slice none 0 0, .slice none 0 0] rfl rfl) (RS.tmp rfl) (RS.tmp rfl) ?_
    replace hH := (hH.sublist (.cons_cons _ (List.nil_sublist _)))
    replace hH : Hp w w79 (off w (blksOf [.grp (rbxO yb (.slice Ar 0 cr) (.slice At 0 ct) ⟨none, 0, []⟩)])) (blksOf [.grp (rbxO yb (.slice Ar 0 cr) (.slice At 0 ct) ⟨none, 0, []⟩)]) [.blk yb 58 [.bool true, .int .i64 p.idx, .int .i64 p.term, .bool false, .slice none 0 0, .slice none 0 0]] := hH
    replace hH := (hH.nilRow 9 1).nilRow 4 1
    replace hH := (hH.sublist (.cons_cons _ (.cons_cons _ (.cons_cons _ (List.nil_sublist _)))))
    replace hH : Hp w w79 (off w (blksOf [.grp (rbxO yb (.slice Ar 0 cr) (.slice At 0 ct) ⟨none, 0, []⟩)])) (blksOf [.grp (rbxO yb (.slice Ar 0 cr) (.slice At 0 ct) ⟨none, 0, []⟩)]) [.blk yb 58 [.bool true, .int .i64 p.idx, .int .i64 p.term, .bool false, .slice none 0 0, .slice none 0 0], .row (.slice none 0 0) 9 1 0 [], .row (.slice none 0 0) 4 1 0 []] := hH
    replace hH : Hp w w79 (off w (blksOf [.grp (rbxO yb (.slice Ar 0 cr) (.slice At 0 ct) ⟨none, 0, []⟩)])) (blksOf [.grp (rbxO yb (.slice Ar 0 cr) (.slice At 0 ct) ⟨none, 0, []⟩)]) (rbxO yb (.slice none 0 0) (.slice none 0 0) ⟨some (p.term, p.idx), 0, []⟩ ++ []) := hH
    have hr := (show putI ⟨none, 0, []⟩ p nv = (⟨some (p.term, p.idx), 0, []⟩, Snp.none, false, 91) from by rw [putI_end nv hc1 hbase (by rw [← hie]; exact all_has hall), ← hie]; rw [endI_bad1 hrd])
    refine ⟨.slice none 0 0, .slice none 0 0, .slice none 0 0, .slice none 0 0, ?_⟩
    rw [hr]
    exact ⟨rfl, (((hH.close).nilRow 5 1).nilRow 5 1).turned⟩
  try simp only [decide_eq_false_iff_not, beq_eq_false_iff_ne, bne_eq_false_iff_eq, ne_eq, Decidable.not_not, Int.not_lt, Int.not_le, Bool.not_eq_false', beq_iff_eq, bne_iff_ne, decide_eq_true_eq] at hg6
  have hrd : (readV (joinI (withP rs2 p nv) i)).2 = 0 := by omega
  refine gl_ops 1 [(3, .pointer (some ⟨b1, 0, none⟩)), (4, .pointer (some ⟨b3, 0, none⟩)), (12, .pointer (some ⟨b76, 0, none⟩)), (185, .bool false), (186, .pointer (some ⟨b76, 0, none⟩))] (by kernel_rfl) ?_
  refine gl_q rfl rfl rfl (rd_loadK 8 (by kernel_rfl) hH rfl rfl rfl) ?_
  refine gl_ops 1 [(3, .pointer (some ⟨b1, 0, none⟩)), (4, .pointer (some ⟨b3, 0, none⟩)), (12, .pointer (some ⟨b76, 0, none⟩)), (185, .bool false), (187, .int .i64 ((readV (joinI (withP rs2 p nv) i)).1.idx)), (188, .pointer (some ⟨b1, 0, none⟩))] (by kernel_rfl) ?_
  refine gl_q rfl rfl rfl (rd_loadK 3 (by kernel_rfl) hH rfl rfl rfl) ?_
  refine gl_ops 3 [(3, .pointer (some ⟨b1, 0, none⟩)), (4, .pointer (some ⟨b3, 0, none⟩)), (12, .pointer (some ⟨b76, 0, none⟩)), (192, .bool (((readV (joinI (withP rs2 p nv) i)).1.idx) != (p.idx : Int)))] (by kernel_rfl) ?_
  refine gl_split 192 (b := ((readV (joinI (withP rs2 p nv) i)).1.idx) != (p.idx : Int)) rfl (fun hg8 => ?_) (fun hg8 => ?_)
  ·
    try simp only [decide_eq_true_eq, beq_iff_eq, bne_iff_ne, ne_eq, Bool.not_eq_true', beq_eq_false_iff_ne, bne_eq_false_iff_eq, decide_eq_false_iff_not, Int.not_lt, Int.not_le] at hg8
    refine gl_ops 6 [(4, .pointer (some ⟨b3, 0, none⟩)), (12, .pointer (some ⟨b76, 0, none⟩)), (198, .bool true)] (by kernel_rfl) ?_
    refine gl_done rfl ?_
    refine sw_next ?_
    refine sw_true rfl rfl ?_
    refine sw_seq ?_
    refine sw_region ?_  -- R29 ref.go:169
    refine gl_ops 1 [(4, .pointer (some ⟨b3, 0, none⟩)), (199, .agg #[.int .i64 0, .int .i64 0, .slice none 0 0, .slice none 0 0])] (by kernel_rfl) ?_
    refine gl_st (st_storeKA (vs := [.int .i64 0, .int .i64 0, .slice none 0 0, .slice none 0 0]) 4 rfl rfl rfl hH rfl rfl (by kernel_rfl) (by kernel_rfl) rfl (by simp) [.int .i64 0, .int .i64 0, .slice none 0 0, .slice none 0 0] rfl ?_)
    clear hH; intro w80 hH
    replace hH : Hp w w80 (off w (blksOf [.grp (rbxO yb (.slice Ar 0 cr) (.slice At 0 ct) ⟨none, 0, []⟩)])) (blksOf [.grp (rbxO yb (.slice Ar 0 cr) (.slice At 0 ct) ⟨none, 0, []⟩)]) [.blk yb 58 [.bool true, .int .i64 p.idx, .int .i64 p.term, .bool false, .slice none 0 0, .slice none 0 0], .row (.slice A2 p.many.toNat c2) 9 1 p.many.toNat (rowsL ⟨some (p.term, p.idx), p.many.toNat, (withP rs2 p nv)⟩), .row (.slice A3 p.many.toNat c3) 4 1 p.many.toNat (thereL ⟨some (p.term, p.idx), p.many.toNat, (withP rs2 p nv)⟩), .blk b1 48 [.int .i64 p.idx, .int .i64 p.term, .int .i64 p.n, .int .i64 p.many, .slice Ab p.bytes.length cb], .blk b3 24 [.int .i64 0, .int .i64 0, .slice none 0 0, .slice none 0 0], .mkd b57 5 (bv (joinI (withP rs2 p nv) i)), .row (.slice A68 (((readV (joinI (withP rs2 p nv) i)).1.conf).length) c69) 5 1 (((readV (joinI (withP rs2 p nv) i)).1.conf).length) (bv ((readV (joinI (withP rs2 p nv) i)).1.conf)), .row (.slice A72 (((readV (joinI (withP rs2 p nv) i)).1.data).length) c73) 5 1 (((readV (joinI (withP rs2 p nv) i)).1.data).length) (bv ((readV (joinI (withP rs2 p nv) i)).1.data)), .blk b76 24 [.int .i64 ((readV (joinI (withP rs2 p nv) i)).1.idx), .int .i64 ((readV (joinI (withP rs2 p nv) i)).1.term), .slice A68 (((readV (joinI (withP rs2 p nv) i)).1.conf).length) c69, .slice A72 (((readV (joinI (withP rs2 p nv) i)).1.data).length) c73]] := hH
    refine gl_ops 2 [(4, .pointer (some ⟨b3, 0, none⟩)), (5, .bool false), (6, .int .i64 91)] (by kernel_rfl) ?_
    refine gl_done rfl ?_
    refine sw_next ?_
    refine sw_ret ?_
    refine thR ?_
    refine retC3 rfl (RS.cellA hH 4 (by kernel_rfl) rfl rfl (by kernel_rfl) [.int .i64 0, .int .i64 0, .slice none 0 0, .slice none 0 0] rfl rfl) (RS.tmp rfl) (RS.tmp rfl) ?_
    replace hH := (hH.sublist (.cons_cons _ (List.nil_sublist _)))
    replace hH : Hp w w80 (off w (blksOf [.grp (rbxO yb (.slice Ar 0 cr) (.slice At 0 ct) ⟨none, 0, []⟩)])) (blksOf [.grp (rbxO yb (.slice Ar 0 cr) (.slice At 0 ct) ⟨none, 0, []⟩)]) [.blk yb 58 [.bool true, .int .i64 p.idx, .int .i64 p.term, .bool false, .slice none 0 0, .slice none 0 0]] := hH
    replace hH := (hH.nilRow 9 1).nilRow 4 1
    replace hH := (hH.sublist (.cons_cons _ (.cons_cons _ (.cons_cons _ (List.nil_sublist _)))))
    replace hH : Hp w w80 (off w (blksOf [.grp (rbxO yb (.slice Ar 0 cr) (.slice At 0 ct) ⟨none, 0, []⟩)])) (blksOf [.grp (rbxO yb (.slice Ar 0 cr) (.slice At 0 ct) ⟨none, 0, []⟩)]) [.blk yb 58 [.bool true, .int .i64 p.idx, .int .i64 p.term, .bool false, .slice none 0 0, .slice none 0 0], .row (.slice none 0 0) 9 1 0 [], .row (.slice none 0 0) 4 1 0 []] := hH
    replace hH : Hp w w80 (off w (blksOf [.grp (rbxO yb (.slice Ar 0 cr) (.slice At 0 ct) ⟨none, 0, []⟩)])) (blksOf [.grp (rbxO yb (.slice Ar 0 cr) (.slice At 0 ct) ⟨none, 0, []⟩)]) (rbxO yb (.slice none 0 0) (.slice none 0 0) ⟨some (p.term, p.idx), 0, []⟩ ++ []) := hH
    have hr := (show putI ⟨none, 0, []⟩ p nv = (⟨some (p.term, p.idx), 0, []⟩, Snp.none, false, 91) from by rw [putI_end nv hc1 hbase (by rw [← hie]; exact all_has hall), ← hie]; rw [endI_bad2 hrd (fun h => by omega)])
    refine ⟨.slice none 0 0, .slice none 0 0, .slice none 0 0, .slice none 0 0, ?_⟩
    rw [hr]
    exact ⟨rfl, (((hH.close).nilRow 5 1).nilRow 5 1).turned⟩
  try simp only [decide_eq_false_iff_not, beq_eq_false_iff_ne, bne_eq_false_iff_eq, ne_eq, Decidable.not_not, Int.not_lt, Int.not_le, Bool.not_eq_false', beq_iff_eq, bne_iff_ne, decide_eq_true_eq] at hg8
  refine gl_ops 1 [(3, .pointer (some ⟨b1, 0, none⟩)), (4, .pointer (some ⟨b3, 0, none⟩)), (12, .pointer (some ⟨b76, 0, none⟩)), (192, .bool false), (193, .pointer (some ⟨b76, 1, none⟩))] (by kernel_rfl) ?_
  refine gl_q rfl rfl rfl (rd_loadK 8 (by kernel_rfl) hH rfl rfl rfl) ?_
  refine gl_ops 1 [(4, .pointer (some ⟨b3, 0, none⟩)), (12, .pointer (some ⟨b76, 0, none⟩)), (192, .bool false), (194, .int .i64 ((readV (joinI (withP rs2 p nv) i)).1.term)), (195, .pointer (some ⟨b1, 1, none⟩))] (by kernel_rfl) ?_
  refine gl_q rfl rfl rfl (rd_loadK 3 (by kernel_rfl) hH rfl rfl rfl) ?_
  refine gl_ops 2 [(4, .pointer (some ⟨b3, 0, none⟩)), (12, .pointer (some ⟨b76, 0, none⟩)), (198, .bool (((readV (joinI (withP rs2 p nv) i)).1.term) != (p.term : Int)))] (by kernel_rfl) ?_
  refine gl_done rfl ?_
  refine sw_next ?_
  refine sw_cond rfl rfl (fun hc10 => ?_) (fun hc10 => ?_)
  ·
    try simp only [decide_eq_true_eq, beq_iff_eq, bne_iff_ne, ne_eq, Bool.not_eq_true', beq_eq_false_iff_ne, bne_eq_false_iff_eq, decide_eq_false_iff_not, Int.not_lt, Int.not_le] at hc10
    refine sw_seq ?_
    refine sw_region ?_  -- R29 ref.go:169
    refine gl_ops 1 [(4, .pointer (some ⟨b3, 0, none⟩)), (199, .agg #[.int .i64 0, .int .i64 0, .slice none 0 0, .slice none 0 0])] (by kernel_rfl) ?_
    refine gl_st (st_storeKA (vs := [.int .i64 0, .int .i64 0, .slice none 0 0, .slice none 0 0]) 4 rfl rfl rfl hH rfl rfl (by kernel_rfl) (by kernel_rfl) rfl (by simp) [.int .i64 0, .int .i64 0, .slice none 0 0, .slice none 0 0] rfl ?_)
    clear hH; intro w81 hH
    replace hH : Hp w w81 (off w (blksOf [.grp (rbxO yb (.slice Ar 0 cr) (.slice At 0 ct) ⟨none, 0, []⟩)])) (blksOf [.grp (rbxO yb (.slice Ar 0 cr) (.slice At 0 ct) ⟨none, 0, []⟩)]) [.blk yb 58 [.bool true, .int .i64 p.idx, .int .i64 p.term, .bool false, .slice none 0 0, .slice none 0 0], .row (.slice A2 p.many.toNat c2) 9 1 p.many.toNat (rowsL ⟨some (p.term, p.idx), p.many.toNat, (withP rs2 p nv)⟩), .row (.slice A3 p.many.toNat c3) 4 1 p.many.toNat (thereL ⟨some (p.term, p.idx), p.many.toNat, (withP rs2 p nv)⟩), .blk b1 48 [.int .i64 p.idx, .int .i64 p.term, .int .i64 p.n, .int .i64 p.many, .slice Ab p.bytes.length cb], .blk b3 24 [.int .i64 0, .int .i64 0, .slice none 0 0, .slice none 0 0], .mkd b57 5 (bv (joinI (withP rs2 p nv) i)), .row (.slice A68 (((readV (joinI (withP rs2 p nv) i)).1.conf).length) c69) 5 1 (((readV (joinI (withP rs2 p nv) i)).1.conf).length) (bv ((readV (joinI (withP rs2 p nv) i)).1.conf)), .row (.slice A72 (((readV (joinI (withP rs2 p nv) i)).1.data).length) c73) 5 1 (((readV (joinI (withP rs2 p nv) i)).1.data).length) (bv ((readV (joinI (withP rs2 p nv) i)).1.data)), .blk b76 24 [.int .i64 ((readV (joinI (withP rs2 p nv) i)).1.idx), .int .i64 ((readV (joinI (withP rs2 p nv) i)).1.term), .slice A68 (((readV (joinI (withP rs2 p nv) i)).1.conf).length) c69, .slice A72 (((readV (joinI (withP rs2 p nv) i)).1.data).length) c73]] := hH
    refine gl_ops 2 [(4, .pointer (some ⟨b3, 0, none⟩)), (5, .bool false), (6, .int .i64 91)] (by kernel_rfl) ?_
    refine gl_done rfl ?_
    refine sw_next ?_
    refine sw_ret ?_
    refine thR ?_
    refine retC3 rfl (RS.cellA hH 4 (by kernel_rfl) rfl rfl (by kernel_rfl) [.int .i64 0, .int .i64 0, .slice none 0 0, .slice none 0 0] rfl rfl) (RS.tmp rfl) (RS.tmp rfl) ?_
    replace hH := (hH.sublist (.cons_cons _ (List.nil_sublist _)))
    replace hH : Hp w w81 (off w (blksOf [.grp (rbxO yb (.slice Ar 0 cr) (.slice At 0 ct) ⟨none, 0, []⟩)])) (blksOf [.grp (rbxO yb (.slice Ar 0 cr) (.slice At 0 ct) ⟨none, 0, []⟩)]) [.blk yb 58 [.bool true, .int .i64 p.idx, .int .i64 p.term, .bool false, .slice none 0 0, .slice none 0 0]] := hH
    replace hH := (hH.nilRow 9 1).nilRow 4 1
    replace hH := (hH.sublist (.cons_cons _ (.cons_cons _ (.cons_cons _ (List.nil_sublist _)))))
    replace hH : Hp w w81 (off w (blksOf [.grp (rbxO yb (.slice Ar 0 cr) (.slice At 0 ct) ⟨none, 0, []⟩)])) (blksOf [.grp (rbxO yb (.slice Ar 0 cr) (.slice At 0 ct) ⟨none, 0, []⟩)]) [.blk yb 58 [.bool true, .int .i64 p.idx, .int .i64 p.term, .bool false, .slice none 0 0, .slice none 0 0], .row (.slice none 0 0) 9 1 0 [], .row (.slice none 0 0) 4 1 0 []] := hH
    replace hH : Hp w w81 (off w (blksOf [.grp (rbxO yb (.slice Ar 0 cr) (.slice At 0 ct) ⟨none, 0, []⟩)])) (blksOf [.grp (rbxO yb (.slice Ar 0 cr) (.slice At 0 ct) ⟨none, 0, []⟩)]) (rbxO yb (.slice none 0 0) (.slice none 0 0) ⟨some (p.term, p.idx), 0, []⟩ ++ []) := hH
    have hr := (show putI ⟨none, 0, []⟩ p nv = (⟨some (p.term, p.idx), 0, []⟩, Snp.none, false, 91) from by rw [putI_end nv hc1 hbase (by rw [← hie]; exact all_has hall), ← hie]; rw [endI_bad2 hrd (fun h => by omega)])
    refine ⟨.slice none 0 0, .slice none 0 0, .slice none 0 0, .slice none 0 0, ?_⟩
    rw [hr]
    exact ⟨rfl, (((hH.close).nilRow 5 1).nilRow 5 1).turned⟩
  try simp only [decide_eq_false_iff_not, beq_eq_false_iff_ne, bne_eq_false_iff_eq, ne_eq, Decidable.not_not, Int.not_lt, Int.not_le, Bool.not_eq_false', beq_iff_eq, bne_iff_ne, decide_eq_true_eq] at hc10
  refine sw_skip ?_
  refine sw_next ?_
  refine sw_seq ?_
  refine sw_region ?_  -- R30 ref.go:171
  refine gl_q rfl rfl rfl (rd_loadKA (m := 4) 8 (by kernel_rfl) hH rfl rfl (by kernel_rfl) [.int .i64 ((readV (joinI (withP rs2 p nv) i)).1.idx), .int .i64 ((readV (joinI (withP rs2 p nv) i)).1.term), .slice A68 (((readV (joinI (withP rs2 p nv) i)).1.conf).length) c69, .slice A72 (((readV (joinI (withP rs2 p nv) i)).1.data).length) c73] rfl rfl) ?_
  refine gl_st (st_storeKA (vs := [.int .i64 ((readV (joinI (withP rs2 p nv) i)).1.idx), .int .i64 ((readV (joinI (withP rs2 p nv) i)).1.term), .slice A68 (((readV (joinI (withP rs2 p nv) i)).1.conf).length) c69, .slice A72 (((readV (joinI (withP rs2 p nv) i)).1.data).length) c73]) 4 rfl rfl rfl hH rfl rfl (by kernel_rfl) (by kernel_rfl) rfl (by simp) [.int .i64 ((readV (joinI (withP rs2 p nv) i)).1.idx), .int .i64 ((readV (joinI (withP rs2 p nv) i)).1.term), .slice A68 (((readV (joinI (withP rs2 p nv) i)).1.conf).length) c69, .slice A72 (((readV (joinI (withP rs2 p nv) i)).1.data).length) c73] rfl ?_)
  clear hH; intro w82 hH
  replace hH : Hp w w82 (off w (blksOf [.grp (rbxO yb (.slice Ar 0 cr) (.slice At 0 ct) ⟨none, 0, []⟩)])) (blksOf [.grp (rbxO yb (.slice Ar 0 cr) (.slice At 0 ct) ⟨none, 0, []⟩)]) [.blk yb 58 [.bool true, .int .i64 p.idx, .int .i64 p.term, .bool false, .slice none 0 0, .slice none 0 0], .row (.slice A2 p.many.toNat c2) 9 1 p.many.toNat (rowsL ⟨some (p.term, p.idx), p.many.toNat, (withP rs2 p nv)⟩), .row (.slice A3 p.many.toNat c3) 4 1 p.many.toNat (thereL ⟨some (p.term, p.idx), p.many.toNat, (withP rs2 p nv)⟩), .blk b1 48 [.int .i64 p.idx, .int .i64 p.term, .int .i64 p.n, .int .i64 p.many, .slice Ab p.bytes.length cb], .blk b3 24 [.int .i64 ((readV (joinI (withP rs2 p nv) i)).1.idx), .int .i64 ((readV (joinI (withP rs2 p nv) i)).1.term), .slice A68 (((readV (joinI (withP rs2 p nv) i)).1.conf).length) c69, .slice A72 (((readV (joinI (withP rs2 p nv) i)).1.data).length) c73], .mkd b57 5 (bv (joinI (withP rs2 p nv) i)), .row (.slice A68 (((readV (joinI (withP rs2 p nv) i)).1.conf).length) c69) 5 1 (((readV (joinI (withP rs2 p nv) i)).1.conf).length) (bv ((readV (joinI (withP rs2 p nv) i)).1.conf)), .row (.slice A72 (((readV (joinI (withP rs2 p nv) i)).1.data).length) c73) 5 1 (((readV (joinI (withP rs2 p nv) i)).1.data).length) (bv ((readV (joinI (withP rs2 p nv) i)).1.data)), .blk b76 24 [.int .i64 ((readV (joinI (withP rs2 p nv) i)).1.idx), .int .i64 ((readV (joinI (withP rs2 p nv) i)).1.term), .slice A68 (((readV (joinI (withP rs2 p nv) i)).1.conf).length) c69, .slice A72 (((readV (joinI (withP rs2 p nv) i)).1.data).length) c73]] := hH
  refine gl_ops 2 [(4, .pointer (some ⟨b3, 0, none⟩)), (5, .bool true), (6, .int .i64 0)] (by kernel_rfl) ?_
  refine gl_done rfl ?_
  refine sw_next ?_
  refine sw_ret ?_
  refine retC3 rfl (RS.cellA hH 4 (by kernel_rfl) rfl rfl (by kernel_rfl) [.int .i64 ((readV (joinI (withP rs2 p nv) i)).1.idx), .int .i64 ((readV (joinI (withP rs2 p nv) i)).1.term), .slice A68 (((readV (joinI (withP rs2 p nv) i)).1.conf).length) c69, .slice A72 (((readV (joinI (withP rs2 p nv) i)).1.data).length) c73] rfl rfl) (RS.tmp rfl) (RS.tmp rfl) ?_
  replace hH := (hH.sublist (.cons_cons _ (.cons _ (.cons _ (.cons _ (.cons _ (.cons _ (.cons_cons _ (.cons_cons _ (List.nil_sublist _))))))))))
  replace hH : Hp w w82 (off w (blksOf [.grp (rbxO yb (.slice Ar 0 cr) (.slice At 0 ct) ⟨none, 0, []⟩)])) (blksOf [.grp (rbxO yb (.slice Ar 0 cr) (.slice At 0 ct) ⟨none, 0, []⟩)]) [.blk yb 58 [.bool true, .int .i64 p.idx, .int .i64 p.term, .bool false, .slice none 0 0, .slice none 0 0], .row (.slice A68 (((readV (joinI (withP rs2 p nv) i)).1.conf).length) c69) 5 1 (((readV (joinI (withP rs2 p nv) i)).1.conf).length) (bv ((readV (joinI (withP rs2 p nv) i)).1.conf)), .row (.slice A72 (((readV (joinI (withP rs2 p nv) i)).1.data).length) c73) 5 1 (((readV (joinI (withP rs2 p nv) i)).1.data).length) (bv ((readV (joinI (withP rs2 p nv) i)).1.data))] := hH
  replace hH := (hH.nilRow 9 1).nilRow 4 1
  replace hH : Hp w w82 (off w (blksOf [.grp (rbxO yb (.slice Ar 0 cr) (.slice At 0 ct) ⟨none, 0, []⟩)])) (blksOf [.grp (rbxO yb (.slice Ar 0 cr) (.slice At 0 ct) ⟨none, 0, []⟩)]) [.blk yb 58 [.bool true, .int .i64 p.idx, .int .i64 p.term, .bool false, .slice none 0 0, .slice none 0 0], .row (.slice A68 (((readV (joinI (withP rs2 p nv) i)).1.conf).length) c69) 5 1 (((readV (joinI (withP rs2 p nv) i)).1.conf).length) (bv ((readV (joinI (withP rs2 p nv) i)).1.conf)), .row (.slice A72 (((readV (joinI (withP rs2 p nv) i)).1.data).length) c73) 5 1 (((readV (joinI (withP rs2 p nv) i)).1.data).length) (bv ((readV (joinI (withP rs2 p nv) i)).1.data)), .row (.slice none 0 0) 9 1 0 [], .row (.slice none 0 0) 4 1 0 []] := hH
  replace hH := hH.pick [0, 3, 4, 1, 2] (by kernel_rfl) (os' := [.blk yb 58 [.bool true, .int .i64 p.idx, .int .i64 p.term, .bool false, .slice none 0 0, .slice none 0 0], .row (.slice none 0 0) 9 1 0 [], .row (.slice none 0 0) 4 1 0 [], .row (.slice A68 (((readV (joinI (withP rs2 p nv) i)).1.conf).length) c69) 5 1 (((readV (joinI (withP rs2 p nv) i)).1.conf).length) (bv ((readV (joinI (withP rs2 p nv) i)).1.conf)), .row (.slice A72 (((readV (joinI (withP rs2 p nv) i)).1.data).length) c73) 5 1 (((readV (joinI (withP rs2 p nv) i)).1.data).length) (bv ((readV (joinI (withP rs2 p nv) i)).1.data))]) (by kernel_rfl)
  replace hH := (hH.sublist (.cons_cons _ (.cons_cons _ (.cons_cons _ (.cons_cons _ (.cons_cons _ (List.nil_sublist _)))))))
  replace hH : Hp w w82 (off w (blksOf [.grp (rbxO yb (.slice Ar 0 cr) (.slice At 0 ct) ⟨none, 0, []⟩)])) (blksOf [.grp (rbxO yb (.slice Ar 0 cr) (.slice At 0 ct) ⟨none, 0, []⟩)]) [.blk yb 58 [.bool true, .int .i64 p.idx, .int .i64 p.term, .bool false, .slice none 0 0, .slice none 0 0], .row (.slice none 0 0) 9 1 0 [], .row (.slice none 0 0) 4 1 0 [], .row (.slice A68 (((readV (joinI (withP rs2 p nv) i)).1.conf).length) c69) 5 1 (((readV (joinI (withP rs2 p nv) i)).1.conf).length) (bv ((readV (joinI (withP rs2 p nv) i)).1.conf)), .row (.slice A72 (((readV (joinI (withP rs2 p nv) i)).1.data).length) c73) 5 1 (((readV (joinI (withP rs2 p nv) i)).1.data).length) (bv ((readV (joinI (withP rs2 p nv) i)).1.data))] := hH
  replace hH : Hp w w82 (off w (blksOf [.grp (rbxO yb (.slice Ar 0 cr) (.slice At 0 ct) ⟨none, 0, []⟩)])) (blksOf [.grp (rbxO yb (.slice Ar 0 cr) (.slice At 0 ct) ⟨none, 0, []⟩)]) (rbxO yb (.slice none 0 0) (.slice none 0 0) ⟨some (p.term, p.idx), 0, []⟩ ++ [.row (.slice A68 (((readV (joinI (withP rs2 p nv) i)).1.conf).length) c69) 5 1 (((readV (joinI (withP rs2 p nv) i)).1.conf).length) (bv ((readV (joinI (withP rs2 p nv) i)).1.conf)), .row (.slice A72 (((readV (joinI (withP rs2 p nv) i)).1.data).length) c73) 5 1 (((readV (joinI (withP rs2 p nv) i)).1.data).length) (bv ((readV (joinI (withP rs2 p nv) i)).1.data))]) := hH
  have hr := (show putI ⟨none, 0, []⟩ p nv = (⟨some (p.term, p.idx), 0, []⟩, (readV (joinI (withP rs2 p nv) i)).1, true, 0) from by rw [putI_end nv hc1 hbase (by rw [← hie]; exact all_has hall), ← hie]; rw [endI_ok hrd ⟨by omega, by omega⟩])
  refine ⟨.slice none 0 0, .slice none 0 0, .slice A68 (((readV (joinI (withP rs2 p nv) i)).1.conf).length) c69, .slice A72 (((readV (joinI (withP rs2 p nv) i)).1.data).length) c73, ?_⟩
  rw [hr]
  exact ⟨rfl, (hH.close).turned⟩
end Go.Proofs.YtjcchjgkkplamaaDoor
