/- Law 1's helpers: Lent, Kept, Owned: what they answer. -/
import Derived.Test.YtjcchjgkkplamaaDoorErrV
import Derived.Test.YtjcchjgkkplamaaDoorSWL
set_option maxRecDepth 100000
set_option maxHeartbeats 2000000
set_option linter.unusedVariables false
set_option linter.unusedSimpArgs false
namespace Go.Proofs.YtjcchjgkkplamaaDoor
open Go.RowKit Go.SW

theorem Lent_ct (vb : Value) (b : List UInt8) (w : World) (hb : RB w.cell? vb b) (hl : b.length ≤ 140737488355328) :
    Fun Tryd.prog 12 [vb] w fun v w' => ∃ g, v = .slice (some ⟨g, 0, none⟩) b.length (b.length + 1) ∧ Fresh w w' [.row (.slice (some ⟨g, 0, none⟩) (b.length + 1) (b.length + 1)) 5 1 (b.length + 1) (bv (b ++ [77]))] := by
  obtain ⟨Ab, cb, rfl, hb1, hb2⟩ := hb.row.form
  refine fun_of_sw Tryd.func12 rfl 22 rfl rfl ?_
  have hH := Hp.start w
  refine sw_seq ?_
  refine sw_region ?_  -- R0 law.go:11
  refine gl_ops 1 [(0, .slice Ab b.length cb)] (by kernel_rfl) ?_
  refine gl_done rfl ?_
  refine sw_next ?_
  refine sw_seq ?_
  refine sw_region ?_  -- R1 law.go:12
  refine gl_ops 1 [(0, .slice Ab b.length cb), (4, .slice Ab b.length cb)] (by kernel_rfl) ?_
  refine gl_q rfl rfl rfl (rd_len (e := 5) (by kernel_rfl) rfl) ?_
  refine gl_ops 1 [(0, .slice Ab b.length cb), (5, .int .i64 ((b.length : Nat) : Int)), (6, .slice Ab b.length cb)] (by kernel_rfl) ?_
  refine gl_q rfl rfl rfl (rd_len (e := 5) (by kernel_rfl) rfl) ?_
  refine gl_ops 1 [(0, .slice Ab b.length cb), (5, .int .i64 ((b.length : Nat) : Int)), (8, .int .i64 (IntKind.i64.wrap (((b.length : Nat) : Int) + 1)))] (by kernel_rfl) ?_
  refine gl_cv 8 (.int .i64 ((b.length + 1 : Nat) : Int)) (cv_i64 (by omega)) rfl ?_
  refine gl_st (st_makeLC (e := 5) (zv := .int .u8 0) (bytes := 1) rfl rfl rfl (by kernel_rfl) (by kernel_rfl) rfl b.length (b.length + 1) rfl rfl (by omega) (by omega) (by unfold maxLen; omega) hH ?_)
  clear hH; intro b1 w2 hH
  refine gl_ops 1 [(0, .slice Ab b.length cb), (3, .slice (some ⟨b1, 0, none⟩) b.length (b.length + 1))] (by kernel_rfl) ?_
  refine gl_done rfl ?_
  refine sw_next ?_
  refine sw_seq ?_
  refine sw_region ?_  -- R2 law.go:13
  refine gl_ops 2 [(0, .slice Ab b.length cb), (3, .slice (some ⟨b1, 0, none⟩) b.length (b.length + 1)), (10, .slice (some ⟨b1, 0, none⟩) b.length (b.length + 1)), (11, .slice Ab b.length cb)] (by kernel_rfl) ?_
  refine gl_st (st_copyH (e := 5) 0 rfl rfl rfl (by kernel_rfl) (by kernel_rfl) hH rfl rfl (show Win (.slice (some ⟨b1, 0, none⟩) (b.length + 1) (b.length + 1)) (.slice (some ⟨b1, 0, none⟩) b.length (b.length + 1)) 1 0 b.length from ⟨_, _, rfl, fun _ => ⟨_, rfl, rfl⟩⟩) (by omega) rfl (hb.row.mono hH.zin) (bv_one _) ?_)
  clear hH; intro w3 hH
  replace hH := hH.row_eq 0 (l' := b.length + 1) (xs' := bv (b ++ [0])) rfl (rfl) (lent_copy b)
  refine gl_done rfl ?_
  refine sw_next ?_
  refine sw_seq ?_
  refine sw_region ?_  -- R3 law.go:14
  refine gl_ops 2 [(0, .slice Ab b.length cb), (3, .slice (some ⟨b1, 0, none⟩) b.length (b.length + 1)), (13, .slice (some ⟨b1, 0, none⟩) b.length (b.length + 1)), (14, .slice Ab b.length cb)] (by kernel_rfl) ?_
  refine gl_q rfl rfl rfl (rd_len (e := 5) (by kernel_rfl) rfl) ?_
  refine gl_ops 1 [(0, .slice Ab b.length cb), (3, .slice (some ⟨b1, 0, none⟩) b.length (b.length + 1)), (13, .slice (some ⟨b1, 0, none⟩) b.length (b.length + 1)), (16, .int .i64 (IntKind.i64.wrap (((b.length : Nat) : Int) + 1)))] (by kernel_rfl) ?_
  refine gl_cv 16 (.int .i64 ((b.length + 1 : Nat) : Int)) (cv_i64 (by omega)) rfl ?_
  refine gl_q rfl rfl rfl (rd_cut (e := 5) (m := 1) (by kernel_rfl) (by kernel_rfl) rfl (.inl ⟨rfl, rfl⟩) (.inr ⟨_, _, rfl, rfl⟩) (cut_all (by omega))) ?_
  refine gl_ops 1 [(3, .slice (some ⟨b1, 0, none⟩) b.length (b.length + 1)), (17, .slice (some ⟨b1, 0, none⟩) (b.length + 1) (b.length + 1)), (18, .slice Ab b.length cb)] (by kernel_rfl) ?_
  refine gl_q rfl rfl rfl (rd_len (e := 5) (by kernel_rfl) rfl) ?_
  obtain ⟨b5, hb4, hi6⟩ := hH.row_idx 0 rfl b.length (by omega)
  refine gl_q rfl rfl rfl (rd_idx (e := 5) (m := 1) (by kernel_rfl) (by kernel_rfl) rfl rfl hi6) ?_
  refine gl_st (st_storeO (u := .int .u8 77) 0 rfl rfl rfl hH rfl rfl rfl (by kernel_rfl) rfl hb4 (by simp [bv_length] <;> omega) ?_)
  clear hH; intro w7 hH
  replace hH := hH.row_eq 0 (l' := b.length + 1) (xs' := bv (b ++ [77])) rfl (rfl) (lent_set b)
  refine gl_done rfl ?_
  refine sw_next ?_
  refine sw_seq ?_
  refine sw_region ?_  -- R4 law.go:15
  refine gl_ops 2 [(2, .slice (some ⟨b1, 0, none⟩) b.length (b.length + 1))] (by kernel_rfl) ?_
  refine gl_done rfl ?_
  refine sw_next ?_
  refine sw_ret ?_
  refine ret1 rfl rfl  ?_
  exact ⟨_, rfl, hH.fresh⟩
theorem Kept_ct (a : Option Addr) (b : List UInt8) (vb : Value) (w : World) (kL : Row w.cell? (.slice a (b.length + 1) (b.length + 1)) 1 (b.length + 1) (bv (b ++ [77]))) (hb : RB w.cell? vb b) (hbl : b.length ≤ 140737488355328) :
    Fun Tryd.prog 16 [.slice a b.length (b.length + 1), vb] w fun v w' => v = .bool true ∧ Fresh w w' [] := by
  have kl := lent_row kL
  obtain ⟨Ab, cb, rfl, hb1, hb2⟩ := hb.row.form
  refine fun_of_sw Tryd.func16 rfl 22 rfl rfl ?_
  have hH := Hp.start w
  refine sw_seq ?_
  refine sw_region ?_  -- R0 law.go:19
  refine gl_ops 1 [(0, .slice a b.length (b.length + 1)), (1, .slice Ab b.length cb)] (by kernel_rfl) ?_
  refine gl_done rfl ?_
  refine sw_next ?_
  refine sw_seq ?_
  refine sw_region ?_  -- R1 law.go:20
  refine gl_ops 1 [(0, .slice a b.length (b.length + 1)), (1, .slice Ab b.length cb), (5, .slice a b.length (b.length + 1))] (by kernel_rfl) ?_
  refine gl_q rfl rfl rfl (rd_str (e := 5) (by kernel_rfl) (by kernel_rfl) (by kernel_rfl) rfl (kl.mono hH.zin)) ?_
  refine gl_ops 1 [(0, .slice a b.length (b.length + 1)), (1, .slice Ab b.length cb), (6, .string (bs b)), (7, .slice Ab b.length cb)] (by kernel_rfl) ?_
  refine gl_q rfl rfl rfl (rd_str (e := 5) (by kernel_rfl) (by kernel_rfl) (by kernel_rfl) rfl (hb.mono hH.zin)) ?_
  refine gl_q rfl rfl rfl (rd_seql (by kernel_rfl) rfl rfl) ?_
  refine gl_cv 9 (.bool true) (by rw [beq_self_eq_true]) rfl ?_
  refine gl_ops 3 [(1, .slice Ab b.length cb), (10, .bool true), (11, .slice a b.length (b.length + 1)), (12, .slice Ab b.length cb)] (by kernel_rfl) ?_
  refine gl_q rfl rfl rfl (rd_len (e := 5) (by kernel_rfl) rfl) ?_
  refine gl_ops 1 [(1, .slice Ab b.length cb), (10, .bool true), (11, .slice a b.length (b.length + 1)), (14, .int .i64 (IntKind.i64.wrap (((b.length : Nat) : Int) + 1)))] (by kernel_rfl) ?_
  refine gl_cv 14 (.int .i64 ((b.length + 1 : Nat) : Int)) (cv_i64 (by omega)) rfl ?_
  refine gl_q rfl rfl rfl (rd_cut (e := 5) (m := 1) (by kernel_rfl) (by kernel_rfl) rfl (.inl ⟨rfl, rfl⟩) (.inr ⟨_, _, rfl, rfl⟩) (cut_all (by omega))) ?_
  refine gl_ops 1 [(10, .bool true), (15, .slice a (b.length + 1) (b.length + 1)), (16, .slice Ab b.length cb)] (by kernel_rfl) ?_
  refine gl_q rfl rfl rfl (rd_len (e := 5) (by kernel_rfl) rfl) ?_
  obtain ⟨p1, hi3, hp2⟩ := kL.idx b.length (by omega) (by decide)
  refine gl_q rfl rfl rfl (rd_idx (e := 5) (m := 1) (by kernel_rfl) (by kernel_rfl) rfl rfl hi3) ?_
  refine gl_q rfl rfl rfl (rd_load (by kernel_rfl) rfl (hH.zin _ _ (hp2 0 _ (by decide) (lent_last b)))) ?_
  refine gl_ops 3 [(4, .bool true)] (by kernel_rfl) ?_
  refine gl_done rfl ?_
  refine sw_next ?_
  refine sw_ret ?_
  refine ret1 rfl rfl  ?_
  exact ⟨rfl, hH.fresh⟩
/-- What Owned writes into row j. -/
def obv (j : Nat) : Value := .int .u8 (((UInt8.ofNat (j + 1)).toNat : Nat) : Int)
theorem vs_at (vs : List Value) (j : Nat) (h : j < vs.length) {v : Value} (hv : vs.getD j undef = v) : vs[j * 1 + 0]? = some v := by
  rw [← hv, Nat.mul_one, Nat.add_zero, List.getD_eq_getElem?_getD, List.getElem?_eq_getElem h]; rfl
theorem paint_step {xs : List Value} {k : Nat} {u : Value} (h : xs.take k = List.replicate k u) (hk : k < xs.length) : (xs.set (k * 1) u).take (k + 1) = List.replicate (k + 1) u := by
  rw [Nat.mul_one, List.take_succ_eq_append_getElem (by simpa using hk), List.getElem_set_self, List.take_set_of_le (Nat.le_refl k), h, List.replicate_succ']
theorem rep_at (c k : Nat) (u : Value) (h : k < c) : (List.replicate c u)[k * 1 + 0]? = some u := by
  rw [Nat.mul_one, Nat.add_zero, List.getElem?_replicate, if_pos h]
theorem any_forms {w : World} {e : TypeId} {vs : List Value} (h : (Own.grp (vs.map (anyO e))).at w) (j : Nat) (hj : j < vs.length) : ∃ A l c, vs.getD j undef = .slice A l c ∧ l ≤ c := by
  have h1 : (anyO e (vs.getD j undef)).at w := h _ (List.mem_map.2 ⟨_, by rw [List.getD_eq_getElem?_getD, List.getElem?_eq_getElem hj]; exact List.getElem_mem _, rfl⟩)
  obtain ⟨xs, _, h2⟩ := h1
  rcases h2 with h2 | h2
  · exact ⟨none, 0, 0, h2, Nat.le_refl _⟩
  · exact h2
theorem mixO_same {e : TypeId} {u : Nat → Value} {vs : List Value} {i : Nat} (hi : i < vs.length) : (mixO e u vs vs.length).set i (repO e (u i) (vs.getD i undef)) = mixO e u vs vs.length := by
  apply List.ext_getElem?
  intro j
  rw [List.getElem?_set]
  by_cases hij : i = j
  · subst hij
    rw [if_pos rfl, if_pos (by simpa [mixO] using hi), mixO_get hi, if_pos hi]
  · rw [if_neg hij]

theorem Owned_ct (vr : Value) (vs : List Value) (w : World) (hM : Mine w [.grp (vs.map (anyO 5))]) (hR : Row (off w (blksOf [.grp (vs.map (anyO 5))])) vr 1 vs.length vs) (hn : vs.length ≤ 2000) :
    Fun Tryd.prog 22 [vr] w fun v w' => v = .bool true ∧ Turn w w' [.grp (vs.map (anyO 5))] [] := by
  obtain ⟨Ar, cr, rfl, hR1, hR2⟩ := hR.form
  have hsl := any_forms (hM.1 _ (List.mem_singleton.2 rfl))
  refine fun_of_sw Tryd.func22 rfl 67 rfl rfl ?_
  have hH := (Hp.start_mine hM).cast (os' := [.grp (mixO 5 obv vs 0)]) (by rw [mixO_zero])
  refine sw_seq ?_
  refine sw_region ?_  -- R0 law.go:24
  refine gl_ops 1 [(0, .slice Ar vs.length cr)] (by kernel_rfl) ?_
  refine gl_done rfl ?_
  refine sw_next ?_
  refine sw_seq ?_
  refine sw_seq ?_
  refine sw_region ?_  -- R1 law.go:25
  refine gl_ops 1 [(0, .slice Ar vs.length cr), (3, .int .i64 0)] (by kernel_rfl) ?_
  refine gl_done rfl ?_
  refine sw_next ?_
  refine sw_block ?_
  refine sw_loop (γ := Nat) (fun i => [(0, .slice Ar vs.length cr), (3, .int .i64 ((i : Nat) : Int))]) (fun i w_ => (i ≤ vs.length) ∧ Hp w w_ (off w (blksOf [.grp (vs.map (anyO 5))])) (blksOf [.grp (vs.map (anyO 5))]) [.grp (mixO 5 obv vs i)]) (fun i => vs.length - i) (0) (Sub.of_eq (by kernel_rfl)) ?_ ?_
  · exact ⟨by omega, hH⟩
  clear hH
  rintro i w1 ⟨hi, hH⟩
  refine sw_keep [(0, .slice Ar vs.length cr), (3, .int .i64 ((i : Nat) : Int))] (by kernel_rfl) ?_
  refine sw_seq ?_
  refine sw_seq ?_
  refine sw_region ?_  -- R2 law.go:25
  refine gl_ops 2 [(0, .slice Ar vs.length cr), (3, .int .i64 ((i : Nat) : Int)), (9, .int .i64 ((i : Nat) : Int)), (10, .slice Ar vs.length cr)] (by kernel_rfl) ?_
  refine gl_q rfl rfl rfl (rd_len (e := 22) (by kernel_rfl) rfl) ?_
  refine gl_ops 1 [(0, .slice Ar vs.length cr), (3, .int .i64 ((i : Nat) : Int)), (12, .bool (decide (((i : Nat) : Int) < ((vs.length : Nat) : Int))))] (by kernel_rfl) ?_
  refine gl_done rfl ?_
  refine sw_next ?_
  refine sw_cond rfl rfl (fun hc1 => ?_) (fun hc1 => ?_)
  ·
    try simp only [decide_eq_true_eq, beq_iff_eq, bne_iff_ne, ne_eq, Bool.not_eq_true', beq_eq_false_iff_ne, bne_eq_false_iff_eq, decide_eq_false_iff_not, Int.not_lt, Int.not_le] at hc1
    refine sw_skip ?_
    refine sw_next ?_
    refine sw_seq ?_
    refine sw_block ?_
    refine sw_seq ?_
    replace hH := hH.out i ((mixO_get (by omega)).trans (by rw [if_neg (by omega)]))
    obtain ⟨A2, l3, c4, xs7, hv5, hlc6, hH⟩ := any_row hH
    have hlen := (hH.row_at 0 rfl).1
    replace hH : Hp w w1 _ _ [.row (.slice A2 c4 c4) 5 1 c4 xs7, .grp ((mixO 5 obv vs i).eraseIdx i)] := hH
    have hcm : c4 ≤ 9223372036854775807 := by obtain ⟨_, _, e9, -, h9⟩ := hH.row_form 0 rfl; cases e9; simpa [maxLen] using h9
    refine sw_draw (by kernel_rfl) (fun w_ => Hp w w_ (off w (blksOf [.grp (vs.map (anyO 5))])) (blksOf [.grp (vs.map (anyO 5))]) [.row (.slice A2 c4 c4) 5 1 c4 xs7, .grp ((mixO 5 obv vs i).eraseIdx i)]) ?_  -- R4 law.go:26
    replace hH := hH.drew
    generalize { w1 with drawn := w1.drawn + 1 } = w8 at hH ⊢
    have hS9 := hH.sublist (.cons_cons _ (.cons_cons _ (List.nil_sublist _)))
    refine gd_pure 0 rfl (by kernel_rfl) (PQ.th (PQ.bk (PQ.th (PQ.th (PQ.bk (PQ.th PQ.body)))))) hS9 rfl rfl (.slice Ar vs.length cr) (by kernel_rfl) ?_
    refine gd_pure 1 rfl (by kernel_rfl) (PQ.th (PQ.bk (PQ.th (PQ.th (PQ.bk (PQ.th PQ.body)))))) hS9 rfl rfl (.int .i64 ((i : Nat) : Int)) (by kernel_rfl) ?_
    obtain ⟨p9, hi11, hp10⟩ := hR.idx i (by omega) (by decide)
    refine gd_q 2 rfl (by kernel_rfl) (PQ.th (PQ.bk (PQ.th (PQ.th (PQ.bk (PQ.th PQ.body)))))) hS9 rfl rfl (fun w_ hS => (rd_idx (e := 22) (m := 1) (by kernel_rfl) (by kernel_rfl) rfl rfl hi11)) ?_
    refine gd_keep [(0, .slice Ar vs.length cr), (3, .int .i64 ((i : Nat) : Int)), (17, .pointer (some p9))] (by kernel_rfl) ?_
    refine gd_q 3 rfl (by kernel_rfl) (PQ.th (PQ.bk (PQ.th (PQ.th (PQ.bk (PQ.th PQ.body)))))) hS9 rfl rfl (fun w_ hS => (rd_load (by kernel_rfl) rfl (hS.zin _ _ (hp10 0 _ (by decide) (vs_at vs i (by omega) hv5))))) ?_
    refine gd_pure 4 rfl (by kernel_rfl) (PQ.th (PQ.bk (PQ.th (PQ.th (PQ.bk (PQ.th PQ.body)))))) hS9 rfl rfl (.slice Ar vs.length cr) (by kernel_rfl) ?_
    refine gd_pure 5 rfl (by kernel_rfl) (PQ.th (PQ.bk (PQ.th (PQ.th (PQ.bk (PQ.th PQ.body)))))) hS9 rfl rfl (.int .i64 ((i : Nat) : Int)) (by kernel_rfl) ?_
    refine gd_keep [(0, .slice Ar vs.length cr), (3, .int .i64 ((i : Nat) : Int)), (18, .slice A2 l3 c4), (19, .slice Ar vs.length cr), (20, .int .i64 ((i : Nat) : Int))] (by kernel_rfl) ?_
    obtain ⟨p12, hi14, hp13⟩ := hR.idx i (by omega) (by decide)
    refine gd_q 6 rfl (by kernel_rfl) (PQ.th (PQ.bk (PQ.th (PQ.th (PQ.bk (PQ.th PQ.body)))))) hS9 rfl rfl (fun w_ hS => (rd_idx (e := 22) (m := 1) (by kernel_rfl) (by kernel_rfl) rfl rfl hi14)) ?_
    refine gd_q 7 rfl (by kernel_rfl) (PQ.th (PQ.bk (PQ.th (PQ.th (PQ.bk (PQ.th PQ.body)))))) hS9 rfl rfl (fun w_ hS => (rd_load (by kernel_rfl) rfl (hS.zin _ _ (hp13 0 _ (by decide) (vs_at vs i (by omega) hv5))))) ?_
    refine gd_q 8 rfl (by kernel_rfl) (PQ.th (PQ.bk (PQ.th (PQ.th (PQ.bk (PQ.th PQ.body)))))) hS9 rfl rfl (fun w_ hS => (rd_cap (e := 5) (by kernel_rfl) rfl)) ?_
    refine gd_keep [(0, .slice Ar vs.length cr), (3, .int .i64 ((i : Nat) : Int)), (18, .slice A2 l3 c4), (23, .int .i64 ((c4 : Nat) : Int))] (by kernel_rfl) ?_
    refine gd_q 9 rfl (by kernel_rfl) (PQ.th (PQ.bk (PQ.th (PQ.th (PQ.bk (PQ.th PQ.body)))))) hS9 rfl rfl (fun w_ hS => (rd_cut (e := 5) (m := 1) (by kernel_rfl) (by kernel_rfl) rfl (.inl ⟨rfl, rfl⟩) (.inr ⟨_, _, rfl, rfl⟩) (cut_all hlc6))) ?_
    refine gd_pure 10 rfl (by kernel_rfl) (PQ.th (PQ.bk (PQ.th (PQ.th (PQ.bk (PQ.th PQ.body)))))) hS9 rfl rfl (.slice A2 c4 c4) (by kernel_rfl) ?_
    refine gd_done (by kernel_rfl) ?_
    refine at_sub [(0, .slice Ar vs.length cr), (3, .int .i64 ((i : Nat) : Int)), (4, .slice A2 c4 c4)] (Sub.of_eq (by kernel_rfl)) ?_
    refine sw_next ?_
    refine sw_seq ?_
    refine sw_region ?_  -- R5 law.go:27
    refine gl_ops 1 [(0, .slice Ar vs.length cr), (3, .int .i64 ((i : Nat) : Int)), (4, .slice A2 c4 c4), (5, .int .i64 0)] (by kernel_rfl) ?_
    refine gl_done rfl ?_
    refine sw_next ?_
    refine sw_block ?_
    refine sw_loop (γ := Nat × List Value) (fun (k, xs2) => [(0, .slice Ar vs.length cr), (3, .int .i64 ((i : Nat) : Int)), (4, .slice A2 c4 c4), (5, .int .i64 ((k : Nat) : Int))]) (fun (k, xs2) w_ => (k ≤ c4) ∧ (xs2.length = c4 * 1) ∧ (xs2.take k = List.replicate k (obv i)) ∧ Hp w w_ (off w (blksOf [.grp (vs.map (anyO 5))])) (blksOf [.grp (vs.map (anyO 5))]) [.row (.slice A2 c4 c4) 5 1 c4 xs2, .grp ((mixO 5 obv vs i).eraseIdx i)]) (fun (k, xs2) => c4 - k) (0, xs7) (Sub.of_eq (by kernel_rfl)) ?_ ?_
    · exact ⟨by omega, hlen, by simp, hH⟩
    clear hH
    rintro ⟨k, xs2⟩ w15 ⟨hk, hlen2, htk, hH⟩
    refine sw_keep [(0, .slice Ar vs.length cr), (3, .int .i64 ((i : Nat) : Int)), (4, .slice A2 c4 c4), (5, .int .i64 ((k : Nat) : Int))] (by kernel_rfl) ?_
    refine sw_seq ?_
    refine sw_seq ?_
    refine sw_region ?_  -- R6 law.go:27
    refine gl_ops 2 [(0, .slice Ar vs.length cr), (3, .int .i64 ((i : Nat) : Int)), (4, .slice A2 c4 c4), (5, .int .i64 ((k : Nat) : Int)), (25, .int .i64 ((k : Nat) : Int)), (26, .slice A2 c4 c4)] (by kernel_rfl) ?_
    refine gl_q rfl rfl rfl (rd_len (e := 5) (by kernel_rfl) rfl) ?_
    refine gl_ops 1 [(0, .slice Ar vs.length cr), (3, .int .i64 ((i : Nat) : Int)), (4, .slice A2 c4 c4), (5, .int .i64 ((k : Nat) : Int)), (28, .bool (decide (((k : Nat) : Int) < ((c4 : Nat) : Int))))] (by kernel_rfl) ?_
    refine gl_done rfl ?_
    refine sw_next ?_
    refine sw_cond rfl rfl (fun hc2 => ?_) (fun hc2 => ?_)
    ·
      try simp only [decide_eq_true_eq, beq_iff_eq, bne_iff_ne, ne_eq, Bool.not_eq_true', beq_eq_false_iff_ne, bne_eq_false_iff_eq, decide_eq_false_iff_not, Int.not_lt, Int.not_le] at hc2
      refine sw_skip ?_
      refine sw_next ?_
      refine sw_seq ?_
      refine sw_block ?_
      refine sw_region ?_  -- R8 law.go:28
      refine gl_ops 4 [(0, .slice Ar vs.length cr), (3, .int .i64 ((i : Nat) : Int)), (4, .slice A2 c4 c4), (5, .int .i64 ((k : Nat) : Int)), (31, .slice A2 c4 c4), (32, .int .i64 ((k : Nat) : Int)), (34, .int .i64 (IntKind.i64.wrap (((i : Nat) : Int) + 1)))] (by kernel_rfl) ?_
      refine gl_cv 34 (.int .i64 ((i + 1 : Nat) : Int)) (cv_i64 (by omega)) rfl ?_
      refine gl_ops 1 [(0, .slice Ar vs.length cr), (3, .int .i64 ((i : Nat) : Int)), (4, .slice A2 c4 c4), (5, .int .i64 ((k : Nat) : Int)), (31, .slice A2 c4 c4), (32, .int .i64 ((k : Nat) : Int)), (35, .int .u8 (IntKind.u8.wrap ((i + 1 : Nat) : Int)))] (by kernel_rfl) ?_
      refine gl_cv 35 (.int .u8 (((UInt8.ofNat (i + 1)).toNat : Nat) : Int)) (cv_byte _) rfl ?_
      obtain ⟨b17, hb16, hi18⟩ := hH.row_idx 0 rfl k (by omega)
      refine gl_q rfl rfl rfl (rd_idx (e := 5) (m := 1) (by kernel_rfl) (by kernel_rfl) rfl rfl hi18) ?_
      refine gl_st (st_storeO (u := .int .u8 (((UInt8.ofNat (i + 1)).toNat : Nat) : Int)) 0 rfl rfl rfl hH rfl rfl rfl (by kernel_rfl) rfl hb16 (by omega) ?_)
      clear hH; intro w19 hH
      refine gl_done rfl ?_
      refine bkN ?_
      refine sw_next ?_
      refine sw_region ?_  -- R7 law.go:27
      refine gl_ops 2 [(0, .slice Ar vs.length cr), (3, .int .i64 ((i : Nat) : Int)), (4, .slice A2 c4 c4), (30, .int .i64 (IntKind.i64.wrap (((k : Nat) : Int) + 1)))] (by kernel_rfl) ?_
      refine gl_cv 30 (.int .i64 ((k + 1 : Nat) : Int)) (cv_i64 (by omega)) rfl ?_
      refine gl_ops 1 [(0, .slice Ar vs.length cr), (3, .int .i64 ((i : Nat) : Int)), (4, .slice A2 c4 c4), (5, .int .i64 ((k + 1 : Nat) : Int))] (by kernel_rfl) ?_
      refine gl_done rfl ?_
      refine rnd_end (g := (k, xs2)) (k + 1, (xs2).set (k * 1) (.int .u8 (((UInt8.ofNat (i + 1)).toNat : Nat) : Int))) (by kernel_rfl) ?_ ?_
      · exact ⟨by omega, by rw [List.length_set]; exact hlen2, paint_step htk (by omega), hH⟩
      · show c4 - (k + 1) < c4 - k; omega
    try simp only [decide_eq_false_iff_not, beq_eq_false_iff_ne, bne_eq_false_iff_eq, ne_eq, Decidable.not_not, Int.not_lt, Int.not_le, Bool.not_eq_false', beq_iff_eq, bne_iff_ne, decide_eq_true_eq] at hc2
    refine sw_exit ?_
    refine thX ?_
    refine thX ?_
    refine bkH ?_
    refine bkN ?_
    refine sw_next ?_
    refine sw_region ?_  -- R3 law.go:25
    refine gl_ops 2 [(0, .slice Ar vs.length cr), (14, .int .i64 (IntKind.i64.wrap (((i : Nat) : Int) + 1)))] (by kernel_rfl) ?_
    refine gl_cv 14 (.int .i64 ((i + 1 : Nat) : Int)) (cv_i64 (by omega)) rfl ?_
    refine gl_ops 1 [(0, .slice Ar vs.length cr), (3, .int .i64 ((i + 1 : Nat) : Int))] (by kernel_rfl) ?_
    refine gl_done rfl ?_
    refine rnd_end (g := (i)) (i + 1) (by kernel_rfl) ?_ ?_
    have hx : xs2 = List.replicate c4 (obv i) := by rw [← show xs2.take c4 = xs2 from List.take_of_length_le (by omega), ← show k = c4 from by omega]; exact htk
    replace hH := hH.row_eq 0 (l' := c4) (xs' := List.replicate c4 (obv i)) rfl rfl hx
    replace hH : Hp w w15 _ _ [.row (.slice A2 c4 c4) 5 1 c4 (List.replicate c4 (obv i)), .grp ((mixO 5 obv vs i).eraseIdx i)] := hH
    rw [show Own.row (.slice A2 c4 c4) 5 1 c4 (List.replicate c4 (obv i)) = repO 5 (obv i) (vs.getD i undef) from by rw [hv5]; rfl] at hH
    · exact ⟨by omega, (Hp.into (by simp [mixO]; omega) hH).cast (by rw [mixO_step (by omega)])⟩
    · show vs.length - (i + 1) < vs.length - i; omega
  try simp only [decide_eq_false_iff_not, beq_eq_false_iff_ne, bne_eq_false_iff_eq, ne_eq, Decidable.not_not, Int.not_lt, Int.not_le, Bool.not_eq_false', beq_iff_eq, bne_iff_ne, decide_eq_true_eq] at hc1
  refine sw_exit ?_
  refine thX ?_
  refine thX ?_
  refine bkH ?_
  refine sw_next ?_
  refine sw_seq ?_
  refine sw_seq ?_
  refine sw_region ?_  -- R9 law.go:31
  refine gl_ops 1 [(0, .slice Ar vs.length cr), (6, .int .i64 0)] (by kernel_rfl) ?_
  refine gl_done rfl ?_
  refine sw_next ?_
  refine sw_block ?_
  refine sw_loop (γ := Nat) (fun i => [(0, .slice Ar vs.length cr), (6, .int .i64 ((i : Nat) : Int))]) (fun i w_ => (i ≤ vs.length) ∧ Hp w w_ (off w (blksOf [.grp (vs.map (anyO 5))])) (blksOf [.grp (vs.map (anyO 5))]) [.grp (mixO 5 obv vs vs.length)]) (fun i => vs.length - i) (0) (Sub.of_eq (by kernel_rfl)) ?_ ?_
  · exact ⟨by omega, hH.cast (by rw [show i = vs.length by omega])⟩
  clear hH
  rintro i w20 ⟨hi, hH⟩
  refine sw_keep [(0, .slice Ar vs.length cr), (6, .int .i64 ((i : Nat) : Int))] (by kernel_rfl) ?_
  refine sw_seq ?_
  refine sw_seq ?_
  refine sw_region ?_  -- R10 law.go:31
  refine gl_ops 2 [(0, .slice Ar vs.length cr), (6, .int .i64 ((i : Nat) : Int)), (37, .int .i64 ((i : Nat) : Int)), (38, .slice Ar vs.length cr)] (by kernel_rfl) ?_
  refine gl_q rfl rfl rfl (rd_len (e := 22) (by kernel_rfl) rfl) ?_
  refine gl_ops 1 [(0, .slice Ar vs.length cr), (6, .int .i64 ((i : Nat) : Int)), (40, .bool (decide (((i : Nat) : Int) < ((vs.length : Nat) : Int))))] (by kernel_rfl) ?_
  refine gl_done rfl ?_
  refine sw_next ?_
  refine sw_cond rfl rfl (fun hc3 => ?_) (fun hc3 => ?_)
  ·
    try simp only [decide_eq_true_eq, beq_iff_eq, bne_iff_ne, ne_eq, Bool.not_eq_true', beq_eq_false_iff_ne, bne_eq_false_iff_eq, decide_eq_false_iff_not, Int.not_lt, Int.not_le] at hc3
    refine sw_skip ?_
    refine sw_next ?_
    refine sw_seq ?_
    refine sw_block ?_
    refine sw_seq ?_
    obtain ⟨A21, l22, c23, hv24, hlc25⟩ := hsl i (by omega)
    replace hH := hH.out i ((mixO_get (by omega)).trans (by rw [if_pos (by omega)]))
    rw [show repO 5 (obv i) (vs.getD i undef) = .row (.slice A21 c23 c23) 5 1 c23 (List.replicate c23 (obv i)) from by rw [hv24]; rfl] at hH
    replace hH : Hp w w20 _ _ [.row (.slice A21 c23 c23) 5 1 c23 (List.replicate c23 (obv i)), .grp ((mixO 5 obv vs vs.length).eraseIdx i)] := hH
    have hcm : c23 ≤ 9223372036854775807 := by obtain ⟨_, _, e9, -, h9⟩ := hH.row_form 0 rfl; cases e9; simpa [maxLen] using h9
    refine sw_draw (by kernel_rfl) (fun w_ => Hp w w_ (off w (blksOf [.grp (vs.map (anyO 5))])) (blksOf [.grp (vs.map (anyO 5))]) [.row (.slice A21 c23 c23) 5 1 c23 (List.replicate c23 (obv i)), .grp ((mixO 5 obv vs vs.length).eraseIdx i)]) ?_  -- R12 law.go:32
    replace hH := hH.drew
    generalize { w20 with drawn := w20.drawn + 1 } = w27 at hH ⊢
    have hS9 := hH.sublist (.cons_cons _ (.cons_cons _ (List.nil_sublist _)))
    refine gd_pure 0 rfl (by kernel_rfl) (PQ.th (PQ.bk (PQ.th (PQ.th (PQ.bk (PQ.th PQ.body)))))) hS9 rfl rfl (.slice Ar vs.length cr) (by kernel_rfl) ?_
    refine gd_pure 1 rfl (by kernel_rfl) (PQ.th (PQ.bk (PQ.th (PQ.th (PQ.bk (PQ.th PQ.body)))))) hS9 rfl rfl (.int .i64 ((i : Nat) : Int)) (by kernel_rfl) ?_
    obtain ⟨p28, hi30, hp29⟩ := hR.idx i (by omega) (by decide)
    refine gd_q 2 rfl (by kernel_rfl) (PQ.th (PQ.bk (PQ.th (PQ.th (PQ.bk (PQ.th PQ.body)))))) hS9 rfl rfl (fun w_ hS => (rd_idx (e := 22) (m := 1) (by kernel_rfl) (by kernel_rfl) rfl rfl hi30)) ?_
    refine gd_keep [(0, .slice Ar vs.length cr), (6, .int .i64 ((i : Nat) : Int)), (45, .pointer (some p28))] (by kernel_rfl) ?_
    refine gd_q 3 rfl (by kernel_rfl) (PQ.th (PQ.bk (PQ.th (PQ.th (PQ.bk (PQ.th PQ.body)))))) hS9 rfl rfl (fun w_ hS => (rd_load (by kernel_rfl) rfl (hS.zin _ _ (hp29 0 _ (by decide) (vs_at vs i (by omega) hv24))))) ?_
    refine gd_pure 4 rfl (by kernel_rfl) (PQ.th (PQ.bk (PQ.th (PQ.th (PQ.bk (PQ.th PQ.body)))))) hS9 rfl rfl (.slice Ar vs.length cr) (by kernel_rfl) ?_
    refine gd_pure 5 rfl (by kernel_rfl) (PQ.th (PQ.bk (PQ.th (PQ.th (PQ.bk (PQ.th PQ.body)))))) hS9 rfl rfl (.int .i64 ((i : Nat) : Int)) (by kernel_rfl) ?_
    refine gd_keep [(0, .slice Ar vs.length cr), (6, .int .i64 ((i : Nat) : Int)), (46, .slice A21 l22 c23), (47, .slice Ar vs.length cr), (48, .int .i64 ((i : Nat) : Int))] (by kernel_rfl) ?_
    obtain ⟨p31, hi33, hp32⟩ := hR.idx i (by omega) (by decide)
    refine gd_q 6 rfl (by kernel_rfl) (PQ.th (PQ.bk (PQ.th (PQ.th (PQ.bk (PQ.th PQ.body)))))) hS9 rfl rfl (fun w_ hS => (rd_idx (e := 22) (m := 1) (by kernel_rfl) (by kernel_rfl) rfl rfl hi33)) ?_
    refine gd_q 7 rfl (by kernel_rfl) (PQ.th (PQ.bk (PQ.th (PQ.th (PQ.bk (PQ.th PQ.body)))))) hS9 rfl rfl (fun w_ hS => (rd_load (by kernel_rfl) rfl (hS.zin _ _ (hp32 0 _ (by decide) (vs_at vs i (by omega) hv24))))) ?_
    refine gd_q 8 rfl (by kernel_rfl) (PQ.th (PQ.bk (PQ.th (PQ.th (PQ.bk (PQ.th PQ.body)))))) hS9 rfl rfl (fun w_ hS => (rd_cap (e := 5) (by kernel_rfl) rfl)) ?_
    refine gd_keep [(0, .slice Ar vs.length cr), (6, .int .i64 ((i : Nat) : Int)), (46, .slice A21 l22 c23), (51, .int .i64 ((c23 : Nat) : Int))] (by kernel_rfl) ?_
    refine gd_q 9 rfl (by kernel_rfl) (PQ.th (PQ.bk (PQ.th (PQ.th (PQ.bk (PQ.th PQ.body)))))) hS9 rfl rfl (fun w_ hS => (rd_cut (e := 5) (m := 1) (by kernel_rfl) (by kernel_rfl) rfl (.inl ⟨rfl, rfl⟩) (.inr ⟨_, _, rfl, rfl⟩) (cut_all hlc25))) ?_
    refine gd_pure 10 rfl (by kernel_rfl) (PQ.th (PQ.bk (PQ.th (PQ.th (PQ.bk (PQ.th PQ.body)))))) hS9 rfl rfl (.slice A21 c23 c23) (by kernel_rfl) ?_
    refine gd_done (by kernel_rfl) ?_
    refine at_sub [(0, .slice Ar vs.length cr), (6, .int .i64 ((i : Nat) : Int)), (7, .slice A21 c23 c23)] (Sub.of_eq (by kernel_rfl)) ?_
    refine sw_next ?_
    refine sw_seq ?_
    refine sw_region ?_  -- R13 law.go:33
    refine gl_ops 1 [(0, .slice Ar vs.length cr), (6, .int .i64 ((i : Nat) : Int)), (7, .slice A21 c23 c23), (8, .int .i64 0)] (by kernel_rfl) ?_
    refine gl_done rfl ?_
    refine sw_next ?_
    refine sw_block ?_
    refine sw_loop (γ := Nat) (fun k => [(0, .slice Ar vs.length cr), (6, .int .i64 ((i : Nat) : Int)), (7, .slice A21 c23 c23), (8, .int .i64 ((k : Nat) : Int))]) (fun k w_ => (k ≤ c23) ∧ Hp w w_ (off w (blksOf [.grp (vs.map (anyO 5))])) (blksOf [.grp (vs.map (anyO 5))]) [.row (.slice A21 c23 c23) 5 1 c23 (List.replicate c23 (obv i)), .grp ((mixO 5 obv vs vs.length).eraseIdx i)]) (fun k => c23 - k) (0) (Sub.of_eq (by kernel_rfl)) ?_ ?_
    · exact ⟨by omega, hH⟩
    clear hH
    rintro k w34 ⟨hk, hH⟩
    refine sw_keep [(0, .slice Ar vs.length cr), (6, .int .i64 ((i : Nat) : Int)), (7, .slice A21 c23 c23), (8, .int .i64 ((k : Nat) : Int))] (by kernel_rfl) ?_
    refine sw_seq ?_
    refine sw_seq ?_
    refine sw_region ?_  -- R14 law.go:33
    refine gl_ops 2 [(0, .slice Ar vs.length cr), (6, .int .i64 ((i : Nat) : Int)), (7, .slice A21 c23 c23), (8, .int .i64 ((k : Nat) : Int)), (53, .int .i64 ((k : Nat) : Int)), (54, .slice A21 c23 c23)] (by kernel_rfl) ?_
    refine gl_q rfl rfl rfl (rd_len (e := 5) (by kernel_rfl) rfl) ?_
    refine gl_ops 1 [(0, .slice Ar vs.length cr), (6, .int .i64 ((i : Nat) : Int)), (7, .slice A21 c23 c23), (8, .int .i64 ((k : Nat) : Int)), (56, .bool (decide (((k : Nat) : Int) < ((c23 : Nat) : Int))))] (by kernel_rfl) ?_
    refine gl_done rfl ?_
    refine sw_next ?_
    refine sw_cond rfl rfl (fun hc4 => ?_) (fun hc4 => ?_)
    ·
      try simp only [decide_eq_true_eq, beq_iff_eq, bne_iff_ne, ne_eq, Bool.not_eq_true', beq_eq_false_iff_ne, bne_eq_false_iff_eq, decide_eq_false_iff_not, Int.not_lt, Int.not_le] at hc4
      refine sw_skip ?_
      refine sw_next ?_
      refine sw_seq ?_
      refine sw_block ?_
      refine sw_seq ?_
      refine sw_region ?_  -- R16 law.go:34
      obtain ⟨b36, hb35, hi37⟩ := hH.row_idx 0 rfl k (by omega)
      refine gl_ops 2 [(0, .slice Ar vs.length cr), (6, .int .i64 ((i : Nat) : Int)), (7, .slice A21 c23 c23), (8, .int .i64 ((k : Nat) : Int)), (59, .slice A21 c23 c23), (60, .int .i64 ((k : Nat) : Int))] (by kernel_rfl) ?_
      refine gl_q rfl rfl rfl (rd_idx (e := 5) (m := 1) (by kernel_rfl) (by kernel_rfl) rfl rfl hi37) ?_
      refine gl_q rfl rfl rfl (rd_loadO 0 (by kernel_rfl) hH rfl rfl hb35 (rep_at c23 k (obv i) (by omega))) ?_
      refine gl_ops 2 [(0, .slice Ar vs.length cr), (6, .int .i64 ((i : Nat) : Int)), (7, .slice A21 c23 c23), (8, .int .i64 ((k : Nat) : Int)), (62, .int .u8 (((UInt8.ofNat (i + 1)).toNat : Nat) : Int)), (64, .int .i64 (IntKind.i64.wrap (((i : Nat) : Int) + 1)))] (by kernel_rfl) ?_
      refine gl_cv 64 (.int .i64 ((i + 1 : Nat) : Int)) (cv_i64 (by omega)) rfl ?_
      refine gl_ops 1 [(0, .slice Ar vs.length cr), (6, .int .i64 ((i : Nat) : Int)), (7, .slice A21 c23 c23), (8, .int .i64 ((k : Nat) : Int)), (62, .int .u8 (((UInt8.ofNat (i + 1)).toNat : Nat) : Int)), (65, .int .u8 (IntKind.u8.wrap ((i + 1 : Nat) : Int)))] (by kernel_rfl) ?_
      refine gl_cv 65 (.int .u8 (((UInt8.ofNat (i + 1)).toNat : Nat) : Int)) (cv_byte _) rfl ?_
      refine gl_ops 1 [(0, .slice Ar vs.length cr), (6, .int .i64 ((i : Nat) : Int)), (7, .slice A21 c23 c23), (8, .int .i64 ((k : Nat) : Int)), (66, .bool ((((UInt8.ofNat (i + 1)).toNat : Nat) : Int) != (((UInt8.ofNat (i + 1)).toNat : Nat) : Int)))] (by kernel_rfl) ?_
      refine gl_cv 66 (.bool false) (by simp) rfl ?_
      refine gl_done rfl ?_
      refine sw_next ?_
      refine sw_false rfl rfl ?_
      refine sw_skip ?_
      refine bkN ?_
      refine sw_next ?_
      refine sw_region ?_  -- R15 law.go:33
      refine gl_ops 2 [(0, .slice Ar vs.length cr), (6, .int .i64 ((i : Nat) : Int)), (7, .slice A21 c23 c23), (58, .int .i64 (IntKind.i64.wrap (((k : Nat) : Int) + 1)))] (by kernel_rfl) ?_
      refine gl_cv 58 (.int .i64 ((k + 1 : Nat) : Int)) (cv_i64 (by omega)) rfl ?_
      refine gl_ops 1 [(0, .slice Ar vs.length cr), (6, .int .i64 ((i : Nat) : Int)), (7, .slice A21 c23 c23), (8, .int .i64 ((k + 1 : Nat) : Int))] (by kernel_rfl) ?_
      refine gl_done rfl ?_
      refine rnd_end (g := (k)) (k + 1) (by kernel_rfl) ?_ ?_
      · exact ⟨by omega, hH⟩
      · show c23 - (k + 1) < c23 - k; omega
    try simp only [decide_eq_false_iff_not, beq_eq_false_iff_ne, bne_eq_false_iff_eq, ne_eq, Decidable.not_not, Int.not_lt, Int.not_le, Bool.not_eq_false', beq_iff_eq, bne_iff_ne, decide_eq_true_eq] at hc4
    refine sw_exit ?_
    refine thX ?_
    refine thX ?_
    refine bkH ?_
    refine bkN ?_
    refine sw_next ?_
    refine sw_region ?_  -- R11 law.go:31
    refine gl_ops 2 [(0, .slice Ar vs.length cr), (42, .int .i64 (IntKind.i64.wrap (((i : Nat) : Int) + 1)))] (by kernel_rfl) ?_
    refine gl_cv 42 (.int .i64 ((i + 1 : Nat) : Int)) (cv_i64 (by omega)) rfl ?_
    refine gl_ops 1 [(0, .slice Ar vs.length cr), (6, .int .i64 ((i + 1 : Nat) : Int))] (by kernel_rfl) ?_
    refine gl_done rfl ?_
    refine rnd_end (g := (i)) (i + 1) (by kernel_rfl) ?_ ?_
    replace hH : Hp w w34 _ _ [.row (.slice A21 c23 c23) 5 1 c23 (List.replicate c23 (obv i)), .grp ((mixO 5 obv vs vs.length).eraseIdx i)] := hH
    rw [show Own.row (.slice A21 c23 c23) 5 1 c23 (List.replicate c23 (obv i)) = repO 5 (obv i) (vs.getD i undef) from by rw [hv24]; rfl] at hH
    · exact ⟨by omega, (Hp.into (by simp [mixO]; omega) hH).cast (by rw [mixO_same (by omega)])⟩
    · show vs.length - (i + 1) < vs.length - i; omega
  try simp only [decide_eq_false_iff_not, beq_eq_false_iff_ne, bne_eq_false_iff_eq, ne_eq, Decidable.not_not, Int.not_lt, Int.not_le, Bool.not_eq_false', beq_iff_eq, bne_iff_ne, decide_eq_true_eq] at hc3
  refine sw_exit ?_
  refine thX ?_
  refine thX ?_
  refine bkH ?_
  refine sw_next ?_
  refine sw_seq ?_
  refine sw_region ?_  -- R18 law.go:39
  refine gl_ops 1 [(2, .bool true)] (by kernel_rfl) ?_
  refine gl_done rfl ?_
  refine sw_next ?_
  refine sw_ret ?_
  refine ret1 rfl rfl  ?_
  exact ⟨rfl, (hH.sublist (List.nil_sublist _)).turned⟩
end Go.Proofs.YtjcchjgkkplamaaDoor
