/- Law 18: a disk, act by act: the program's answers as the document's: the law's walk. -/
import Derived.Test.YtjcchjgkkplamaaDoorDiskC
set_option maxRecDepth 100000
set_option maxHeartbeats 4000000
set_option linter.unusedVariables false
set_option linter.unusedSimpArgs false
namespace Go.Proofs.YtjcchjgkkplamaaDoor
open Go.RowKit Go.SW

theorem DiskPlays_ct (va : Value) (ac : List AV) (w : World) (hG : w.cell? ⟨0, 0, none⟩ = some errTy) (hR : Row w.cell? va 6 ac.length (rowC actC ac)) (hok : ∀ a ∈ ac, ActOk w a) (hB : sumB ac ≤ 1048576) :
    Fun Tryd.prog 8 [va] w fun v w' => v = .bool true ∧ Fresh w w' [] := by
  obtain ⟨Aa, ca, rfl, ha1, ha2⟩ := hR.form
  have ha3 := ha2
  simp only [maxLen] at ha3
  refine fun_of_sw Tryd.func8 rfl 87 rfl rfl ?_
  have hH := Hp.start w
  refine sw_seq ?_
  refine sw_region ?_  -- R0 law.go:80
  refine gl_ops 1 [(0, .slice Aa ac.length ca)] (by kernel_rfl) ?_
  refine gl_done rfl ?_
  refine sw_next ?_
  refine sw_seq ?_
  refine sw_region ?_  -- R1 law.go:81
  refine gl_st (st_call rfl rfl rfl (by kernel_rfl) rfl (Small18_ct _ (hH.zin _ _ hG)) ?_)
  rintro _ w1 ⟨rfl, hF2⟩
  replace hH := hH.call hF2; clear hF2
  refine gl_ops 1 [(0, .slice Aa ac.length ca), (3, .bool true)] (by kernel_rfl) ?_
  refine gl_done rfl ?_
  refine sw_next ?_
  refine sw_seq ?_
  refine sw_region ?_  -- R2 law.go:82
  refine gl_st (st_call rfl rfl rfl (by kernel_rfl) rfl (DNew_ct _) ?_)
  rintro _ w5 ⟨db3, mb4, rfl, hF6⟩
  replace hH := hH.call hF6; clear hF6
  refine gl_ops 1 [(0, .slice Aa ac.length ca), (3, .bool true), (4, .pointer (some ⟨db3, 0, none⟩))] (by kernel_rfl) ?_
  refine gl_done rfl ?_
  refine sw_next ?_
  refine sw_seq ?_
  refine sw_seq ?_
  refine sw_region ?_  -- R3 law.go:83
  refine gl_ops 6 [(0, .slice Aa ac.length ca), (4, .pointer (some ⟨db3, 0, none⟩)), (18, .bool false)] (by kernel_rfl) ?_
  refine gl_done rfl ?_
  refine sw_next ?_
  refine sw_false rfl rfl ?_
  refine sw_skip ?_
  refine sw_next ?_
  refine sw_seq ?_
  refine sw_region ?_  -- R5 law.go:86
  refine gl_st (st_call rfl rfl rfl (by kernel_rfl) rfl (RNew18_ct _) ?_)
  rintro _ w8 ⟨xb7, rfl, hF9⟩
  replace hH := hH.call hF9; clear hF9
  refine gl_ops 1 [(0, .slice Aa ac.length ca), (4, .pointer (some ⟨db3, 0, none⟩)), (5, .pointer (some ⟨xb7, 0, none⟩))] (by kernel_rfl) ?_
  refine gl_done rfl ?_
  refine sw_next ?_
  refine sw_seq ?_
  refine sw_seq ?_
  refine sw_region ?_  -- R6 law.go:87
  refine gl_ops 1 [(0, .slice Aa ac.length ca), (4, .pointer (some ⟨db3, 0, none⟩)), (5, .pointer (some ⟨xb7, 0, none⟩)), (6, .int .i64 0)] (by kernel_rfl) ?_
  refine gl_done rfl ?_
  refine sw_next ?_
  refine sw_block ?_
  replace hH := (hH.sublist (.cons_cons _ (.cons_cons _ (List.nil_sublist _))))
  replace hH : Hp w w8 _ _ [.grp (dskO db3 mb4 0 ⟨[], false, none⟩ []), .grp (rdkO xb7 (.slice none 0 0) false (-1) 0 [])] := hH
  refine sw_loop (γ := Nat × Dsk × List PE × Nat × Value × Int × FV) (fun (i, D, es, ab, rv, part, L) => [(0, .slice Aa ac.length ca), (4, .pointer (some ⟨db3, 0, none⟩)), (5, .pointer (some ⟨xb7, 0, none⟩)), (6, .int .i64 ((i : Nat) : Int))]) (fun (i, D, es, ab, rv, part, L) w_ => (i ≤ ac.length) ∧ (i ≤ 200) ∧ (Inv D es L part (sumB (ac.take i)) i) ∧ Hp w w_ (w.cell?) [] [.grp (dskO db3 mb4 ab D es), .grp (rdkO xb7 rv (D).off (actsI (D).ar) part L)]) (fun (i, D, es, ab, rv, part, L) => ac.length - i) (0, ⟨[], false, none⟩, [], 0, .slice none 0 0, 0, []) (Sub.of_eq (by kernel_rfl)) ?_ ?_
  · exact ⟨by omega, by omega, inv_new _, hH⟩
  clear hH
  rintro ⟨i, D, es, ab, rv, part, L⟩ w10 ⟨hi, hi2, hI, hH⟩
  have hal := sumB_le ac i
  refine sw_keep [(0, .slice Aa ac.length ca), (4, .pointer (some ⟨db3, 0, none⟩)), (5, .pointer (some ⟨xb7, 0, none⟩)), (6, .int .i64 ((i : Nat) : Int))] (by kernel_rfl) ?_
  refine sw_seq ?_
  refine sw_seq ?_
  refine sw_region ?_  -- R7 law.go:87
  refine gl_ops 2 [(0, .slice Aa ac.length ca), (4, .pointer (some ⟨db3, 0, none⟩)), (5, .pointer (some ⟨xb7, 0, none⟩)), (6, .int .i64 ((i : Nat) : Int)), (20, .int .i64 ((i : Nat) : Int)), (21, .slice Aa ac.length ca)] (by kernel_rfl) ?_
  refine gl_q rfl rfl rfl (rd_len (e := 77) (by kernel_rfl) rfl) ?_
  refine gl_ops 2 [(0, .slice Aa ac.length ca), (4, .pointer (some ⟨db3, 0, none⟩)), (5, .pointer (some ⟨xb7, 0, none⟩)), (6, .int .i64 ((i : Nat) : Int)), (24, .bool (decide (((i : Nat) : Int) < ((ac.length : Nat) : Int))))] (by kernel_rfl) ?_
  refine gl_split 24 (b := decide (((i : Nat) : Int) < ((ac.length : Nat) : Int))) rfl (fun hg2 => ?_) (fun hg2 => ?_)
  ·
    try simp only [decide_eq_true_eq, beq_iff_eq, bne_iff_ne, ne_eq, Bool.not_eq_true', beq_eq_false_iff_ne, bne_eq_false_iff_eq, decide_eq_false_iff_not, Int.not_lt, Int.not_le] at hg2
    refine gl_ops 3 [(0, .slice Aa ac.length ca), (4, .pointer (some ⟨db3, 0, none⟩)), (5, .pointer (some ⟨xb7, 0, none⟩)), (6, .int .i64 ((i : Nat) : Int)), (27, .bool (decide (((i : Nat) : Int) < (200 : Int))))] (by kernel_rfl) ?_
    refine gl_done rfl ?_
    refine sw_next ?_
    refine sw_cond rfl rfl (fun hc3 => ?_) (fun hc3 => ?_)
    ·
      try simp only [decide_eq_true_eq, beq_iff_eq, bne_iff_ne, ne_eq, Bool.not_eq_true', beq_eq_false_iff_ne, bne_eq_false_iff_eq, decide_eq_false_iff_not, Int.not_lt, Int.not_le] at hc3
      refine sw_skip ?_
      refine sw_next ?_
      refine sw_seq ?_
      refine sw_block ?_
      refine sw_seq ?_
      obtain ⟨a, ha⟩ : ∃ a, ac[i]? = some a := ⟨_, List.getElem?_eq_getElem (by omega)⟩
      have hka := hok a (List.mem_of_getElem? ha)
      have hs1 := sumB_next ha
      have hs2 := sumB_le ac (i + 1)
      obtain ⟨hka1, hka2, hka3, hka4, hka5⟩ := hka
      refine sw_region ?_  -- R9 law.go:88
      obtain ⟨p11, hi13, hp12⟩ := hR.idx i (by omega) (by decide)
      refine gl_ops 4 [(0, .slice Aa ac.length ca), (4, .pointer (some ⟨db3, 0, none⟩)), (5, .pointer (some ⟨xb7, 0, none⟩)), (6, .int .i64 ((i : Nat) : Int)), (30, .pointer (some ⟨db3, 0, none⟩)), (31, .pointer (some ⟨xb7, 0, none⟩)), (32, .slice Aa ac.length ca), (33, .int .i64 ((i : Nat) : Int))] (by kernel_rfl) ?_
      refine gl_q rfl rfl rfl (rd_idx (e := 77) (m := 6) (by kernel_rfl) (by kernel_rfl) rfl rfl hi13) ?_
      refine gl_q rfl rfl rfl (rd_loadZA (by kernel_rfl) hH hp12 rfl 0 rfl [.int .i64 a.dv, .string (bs a.nm), a.vb, .int .i64 a.n, .int .i64 a.m, a.vl] (by kernel_rfl) (rowC_all actC_len ha 0 _ rfl)) ?_
      obtain ⟨D14, hD21⟩ : ∃ D2, actD D a.dv a.nm a.b a.n a.m a.ks = D2 := ⟨_, rfl⟩
      replace hH : Hp w w10 _ _ ([.grp (dskO db3 mb4 ab D es), .grp (rdkO xb7 rv (D).off (actsI (D).ar) part L)] ++ []) := hH
      refine gl_st (st_call rfl rfl rfl (by kernel_rfl) rfl (by have h9 := Act_ct db3 mb4 ab xb7 rv D es L part (sumB (ac.take i)) i a.dv a.nm a.b a.n a.m a.ks a.vb a.vl _ hH.mine hI (hka1.mono hH.zoff) (hka2.mono hH.zoff) (hH.zoff _ _ hG) (by omega) (by omega) (by omega) (by omega) (by omega) hka3; rw [hD21] at h9; exact h9) ?_)
      rintro _ w22 ⟨ab15, es16, rv17, part18, L19, rfl, hI20, hF23⟩
      replace hH := hH.turns hF23; clear hF23
      replace hH : Hp w w22 _ _ [.grp (dskO db3 mb4 ab15 D14 es16), .grp (rdkO xb7 rv17 (D14).off (actsI (D14).ar) part18 L19)] := hH
      rw [← hs1] at hI20
      refine gl_ops 1 [(0, .slice Aa ac.length ca), (4, .pointer (some ⟨db3, 0, none⟩)), (5, .pointer (some ⟨xb7, 0, none⟩)), (6, .int .i64 ((i : Nat) : Int)), (7, .bool true)] (by kernel_rfl) ?_
      refine gl_done rfl ?_
      refine sw_next ?_
      refine sw_seq ?_
      refine sw_region ?_  -- R10 law.go:89
      refine gl_ops 1 [(0, .slice Aa ac.length ca), (4, .pointer (some ⟨db3, 0, none⟩)), (5, .pointer (some ⟨xb7, 0, none⟩)), (6, .int .i64 ((i : Nat) : Int)), (7, .bool true), (37, .pointer (some ⟨db3, 0, none⟩))] (by kernel_rfl) ?_
      replace hH : Hp w w22 _ _ ([.grp (dskO db3 mb4 ab15 D14 es16)] ++ [.grp (rdkO xb7 rv17 (D14).off (actsI (D14).ar) part18 L19)]) := hH
      refine gl_st (st_call rfl rfl rfl (by kernel_rfl) rfl (Files_ct db3 mb4 ab15 D14 es16 _ _ hH.mine hI20.rep hI20.good (by omega) (by have := hI20.len; omega)) ?_)
      rintro _ w29 ⟨v24, qs25, rfl, hqs26, hF30⟩
      replace hH := hH.turns hF30; clear hF30
      replace hH : Hp w w29 _ _ [.grp (rdkO xb7 rv17 (D14).off (actsI (D14).ar) part18 L19), .grp (dskO db3 mb4 ab15 D14 es16), .row _ 89 3 qs25.length (rowC filC qs25), filRs qs25] := hH
      obtain ⟨A31, c32, rfl, hl33, hm34⟩ := hH.row_form 2 rfl
      refine gl_ops 1 [(0, .slice Aa ac.length ca), (4, .pointer (some ⟨db3, 0, none⟩)), (5, .pointer (some ⟨xb7, 0, none⟩)), (6, .int .i64 ((i : Nat) : Int)), (7, .bool true), (8, .slice A31 qs25.length c32)] (by kernel_rfl) ?_
      refine gl_done rfl ?_
      refine sw_next ?_
      refine sw_seq ?_
      refine sw_region ?_  -- R11 law.go:90
      refine gl_ops 4 [(0, .slice Aa ac.length ca), (4, .pointer (some ⟨db3, 0, none⟩)), (5, .pointer (some ⟨xb7, 0, none⟩)), (6, .int .i64 ((i : Nat) : Int)), (7, .bool true), (8, .slice A31 qs25.length c32), (39, .slice A31 qs25.length c32), (42, .pointer (some ⟨xb7, 0, none⟩))] (by kernel_rfl) ?_
      refine gl_q rfl rfl rfl (rd_load (by kernel_rfl) rfl (rdk_c0 hH 0 rfl)) ?_
      refine gl_st (st_call rfl rfl rfl (by kernel_rfl) rfl (Same18_ct _ _ qs25 L19 _ (hH.row_reads 2 rfl) (rdk_rw hH 0 rfl) (rs_rbs hH 3 rfl) (rdk_rbs hH 0 rfl)) ?_)
      rintro _ w37 ⟨bS35, rfl, hbS36, hF38⟩
      replace hH := hH.call hF38; clear hF38
      have e9 : bS35 = true := hbS36.2 (hqs26.trans hI20.fst.symm)
      subst e9
      refine gl_ops 1 [(0, .slice Aa ac.length ca), (4, .pointer (some ⟨db3, 0, none⟩)), (5, .pointer (some ⟨xb7, 0, none⟩)), (6, .int .i64 ((i : Nat) : Int)), (7, .bool true), (8, .slice A31 qs25.length c32), (9, .bool true)] (by kernel_rfl) ?_
      refine gl_done rfl ?_
      refine sw_next ?_
      refine sw_seq ?_
      refine sw_seq ?_
      refine sw_region ?_  -- R12 law.go:91
      refine gl_ops 1 [(0, .slice Aa ac.length ca), (4, .pointer (some ⟨db3, 0, none⟩)), (5, .pointer (some ⟨xb7, 0, none⟩)), (6, .int .i64 ((i : Nat) : Int)), (7, .bool true), (8, .slice A31 qs25.length c32), (9, .bool true), (10, .int .i64 0)] (by kernel_rfl) ?_
      refine gl_done rfl ?_
      refine sw_next ?_
      refine sw_block ?_
      replace hH : Hp w w37 _ _ [.grp (rdkO xb7 rv17 (D14).off (actsI (D14).ar) part18 L19), .grp (dskO db3 mb4 ab15 D14 es16), .row (.slice A31 qs25.length c32) 89 3 qs25.length (rowC filC qs25), filRs qs25] := hH
      replace hH := hH.pick [1, 0, 2, 3] (by kernel_rfl) (os' := [.grp (dskO db3 mb4 ab15 D14 es16), .grp (rdkO xb7 rv17 (D14).off (actsI (D14).ar) part18 L19), .row (.slice A31 qs25.length c32) 89 3 qs25.length (rowC filC qs25), filRs qs25]) (by kernel_rfl)
      replace hH := (hH.sublist (.cons_cons _ (.cons_cons _ (.cons_cons _ (.cons_cons _ (List.nil_sublist _))))))
      replace hH : Hp w w37 _ _ [.grp (dskO db3 mb4 ab15 D14 es16), .grp (rdkO xb7 rv17 (D14).off (actsI (D14).ar) part18 L19), .row (.slice A31 qs25.length c32) 89 3 qs25.length (rowC filC qs25), filRs qs25] := hH
      refine sw_loop (γ := Nat) (fun k => [(0, .slice Aa ac.length ca), (4, .pointer (some ⟨db3, 0, none⟩)), (5, .pointer (some ⟨xb7, 0, none⟩)), (6, .int .i64 ((i : Nat) : Int)), (7, .bool true), (8, .slice A31 qs25.length c32), (9, .bool true), (10, .int .i64 ((k : Nat) : Int))]) (fun k w_ => (k ≤ qs25.length) ∧ Hp w w_ (w.cell?) [] [.grp (dskO db3 mb4 ab15 D14 es16), .grp (rdkO xb7 rv17 (D14).off (actsI (D14).ar) part18 L19), .row (.slice A31 qs25.length c32) 89 3 qs25.length (rowC filC (spoilL qs25 k)), filRs (qs25.drop k)]) (fun k => qs25.length - k) (0) (Sub.of_eq (by kernel_rfl)) ?_ ?_
      · exact ⟨by omega, hH.cast (by rw [spoilL_zero, List.drop_zero])⟩
      clear hH
      rintro k w39 ⟨hk, hH⟩
      refine sw_keep [(0, .slice Aa ac.length ca), (4, .pointer (some ⟨db3, 0, none⟩)), (5, .pointer (some ⟨xb7, 0, none⟩)), (6, .int .i64 ((i : Nat) : Int)), (7, .bool true), (8, .slice A31 qs25.length c32), (9, .bool true), (10, .int .i64 ((k : Nat) : Int))] (by kernel_rfl) ?_
      refine sw_seq ?_
      refine sw_seq ?_
      refine sw_region ?_  -- R13 law.go:91
      refine gl_ops 2 [(0, .slice Aa ac.length ca), (4, .pointer (some ⟨db3, 0, none⟩)), (5, .pointer (some ⟨xb7, 0, none⟩)), (6, .int .i64 ((i : Nat) : Int)), (7, .bool true), (8, .slice A31 qs25.length c32), (9, .bool true), (10, .int .i64 ((k : Nat) : Int)), (45, .int .i64 ((k : Nat) : Int)), (46, .slice A31 qs25.length c32)] (by kernel_rfl) ?_
      refine gl_q rfl rfl rfl (rd_len (e := 89) (by kernel_rfl) rfl) ?_
      refine gl_ops 1 [(0, .slice Aa ac.length ca), (4, .pointer (some ⟨db3, 0, none⟩)), (5, .pointer (some ⟨xb7, 0, none⟩)), (6, .int .i64 ((i : Nat) : Int)), (7, .bool true), (8, .slice A31 qs25.length c32), (9, .bool true), (10, .int .i64 ((k : Nat) : Int)), (48, .bool (decide (((k : Nat) : Int) < ((qs25.length : Nat) : Int))))] (by kernel_rfl) ?_
      refine gl_done rfl ?_
      refine sw_next ?_
      refine sw_cond rfl rfl (fun hc4 => ?_) (fun hc4 => ?_)
      ·
        try simp only [decide_eq_true_eq, beq_iff_eq, bne_iff_ne, ne_eq, Bool.not_eq_true', beq_eq_false_iff_ne, bne_eq_false_iff_eq, decide_eq_false_iff_not, Int.not_lt, Int.not_le] at hc4
        refine sw_skip ?_
        refine sw_next ?_
        refine sw_seq ?_
        refine sw_block ?_
        refine sw_seq ?_
        obtain ⟨⟨f, fv⟩, hq0⟩ : ∃ q, qs25[k]? = some q := ⟨_, List.getElem?_eq_getElem (by omega)⟩
        have hq := spoilL_at hq0
        have hmx : qs25.length ≤ 1000000 := by have h1 := congrArg List.length hqs26; have h2 := hI20.len; simp only [List.length_map] at h1; omega
        replace hH : Hp w w39 _ _ [.grp (dskO db3 mb4 ab15 D14 es16), .grp (rdkO xb7 rv17 (D14).off (actsI (D14).ar) part18 L19), .row (.slice A31 qs25.length c32) 89 3 qs25.length (rowC filC (spoilL qs25 k)), filRs (qs25.drop k)] := hH
        replace hH := hH.pick [3, 0, 1, 2] (by kernel_rfl) (os' := [filRs (qs25.drop k), .grp (dskO db3 mb4 ab15 D14 es16), .grp (rdkO xb7 rv17 (D14).off (actsI (D14).ar) part18 L19), .row (.slice A31 qs25.length c32) 89 3 qs25.length (rowC filC (spoilL qs25 k))]) (by kernel_rfl)
        replace hH := rs_head hq0 hH
        replace hH : Hp w w39 _ _ [.row fv 5 1 f.b.length (bv f.b), filRs (qs25.drop (k + 1)), .grp (dskO db3 mb4 ab15 D14 es16), .grp (rdkO xb7 rv17 (D14).off (actsI (D14).ar) part18 L19), .row (.slice A31 qs25.length c32) 89 3 qs25.length (rowC filC (spoilL qs25 k))] := hH
        obtain ⟨Aq, cq, rfl, hq8, hq9⟩ := hH.row_form 0 rfl
        refine sw_region ?_  -- R15 law.go:92
        obtain ⟨b41, hb40, hi42⟩ := hH.row_idx 4 rfl k (by omega)
        refine gl_ops 2 [(0, .slice Aa ac.length ca), (4, .pointer (some ⟨db3, 0, none⟩)), (5, .pointer (some ⟨xb7, 0, none⟩)), (6, .int .i64 ((i : Nat) : Int)), (7, .bool true), (8, .slice A31 qs25.length c32), (9, .bool true), (10, .int .i64 ((k : Nat) : Int)), (51, .slice A31 qs25.length c32), (52, .int .i64 ((k : Nat) : Int))] (by kernel_rfl) ?_
        refine gl_q rfl rfl rfl (rd_idx (e := 89) (m := 3) (by kernel_rfl) (by kernel_rfl) rfl rfl hi42) ?_
        refine gl_ops 1 [(0, .slice Aa ac.length ca), (4, .pointer (some ⟨db3, 0, none⟩)), (5, .pointer (some ⟨xb7, 0, none⟩)), (6, .int .i64 ((i : Nat) : Int)), (7, .bool true), (8, .slice A31 qs25.length c32), (9, .bool true), (10, .int .i64 ((k : Nat) : Int)), (54, .pointer (some ⟨b41, k * 3 + 1, none⟩))] (by kernel_rfl) ?_
        refine gl_q rfl rfl rfl (rd_loadO 4 (by kernel_rfl) hH rfl rfl hb40 (rowC_at filC_len hq 1 (by decide) rfl)) ?_
        refine gl_st (st_buildS (e := 22) (zv := .slice none 0 0) (m := 1) (bytes := 24) rfl rfl rfl (by kernel_rfl) (by kernel_rfl) rfl (cs := [.slice Aq f.b.length cq]) (by kernel_rfl) rfl hH ?_)
        clear hH; intro b43 w44 hH
        replace hH := row_any hH
        replace hH := rows1 hH
        replace hH : Hp w w44 _ _ [.grp ([Value.slice Aq f.b.length cq].map (anyO 5)), filRs (qs25.drop (k + 1)), .grp (dskO db3 mb4 ab15 D14 es16), .grp (rdkO xb7 rv17 (D14).off (actsI (D14).ar) part18 L19), .row (.slice A31 qs25.length c32) 89 3 qs25.length (rowC filC (spoilL qs25 k)), .row (.slice (some ⟨b43, 0, none⟩) 1 1) 22 1 1 [.slice Aq f.b.length cq]] := hH
        replace hH : Hp w w44 _ _ ([.grp ([Value.slice Aq f.b.length cq].map (anyO 5))] ++ [filRs (qs25.drop (k + 1)), .grp (dskO db3 mb4 ab15 D14 es16), .grp (rdkO xb7 rv17 (D14).off (actsI (D14).ar) part18 L19), .row (.slice A31 qs25.length c32) 89 3 qs25.length (rowC filC (spoilL qs25 k)), .row (.slice (some ⟨b43, 0, none⟩) 1 1) 22 1 1 [.slice Aq f.b.length cq]]) := hH
        refine gl_st (st_call rfl rfl rfl (by kernel_rfl) rfl (Owned_ct _ [Value.slice Aq f.b.length cq] _ hH.mine (zoff_row (mine := [.grp ([Value.slice Aq f.b.length cq].map (anyO 5))]) hH 4 rfl) (by simp)) ?_)
        rintro _ w45 ⟨rfl, hF46⟩
        replace hH := hH.turns hF46; clear hF46
        replace hH : Hp w w45 _ _ [filRs (qs25.drop (k + 1)), .grp (dskO db3 mb4 ab15 D14 es16), .grp (rdkO xb7 rv17 (D14).off (actsI (D14).ar) part18 L19), .row (.slice A31 qs25.length c32) 89 3 qs25.length (rowC filC (spoilL qs25 k)), .row (.slice (some ⟨b43, 0, none⟩) 1 1) 22 1 1 [.slice Aq f.b.length cq]] := hH
        refine gl_done rfl ?_
        refine sw_next ?_
        refine sw_region ?_  -- R16 law.go:93
        obtain ⟨b48, hb47, hi49⟩ := hH.row_idx 3 rfl k (by omega)
        refine gl_ops 3 [(0, .slice Aa ac.length ca), (4, .pointer (some ⟨db3, 0, none⟩)), (5, .pointer (some ⟨xb7, 0, none⟩)), (6, .int .i64 ((i : Nat) : Int)), (7, .bool true), (8, .slice A31 qs25.length c32), (9, .bool true), (10, .int .i64 ((k : Nat) : Int)), (58, .slice A31 qs25.length c32), (59, .int .i64 ((k : Nat) : Int)), (60, .agg #[.string (bs [115, 112, 111, 105, 108, 116]), .slice none 0 0, .int .i64 0])] (by kernel_rfl) ?_
        refine gl_q rfl rfl rfl (rd_idx (e := 89) (m := 3) (by kernel_rfl) (by kernel_rfl) rfl rfl hi49) ?_
        refine gl_st (st_storeOA (vs := [.string (bs [115, 112, 111, 105, 108, 116]), .slice none 0 0, .int .i64 0]) 3 rfl rfl rfl hH rfl rfl rfl (by kernel_rfl) rfl hb47 (by rw [rowC_len filC_len, spoilL_len _ (by omega)]; show k * 3 + 3 ≤ _; omega) ?_)
        clear hH; intro w50 hH
        replace hH := hH.row_eq 3 (l' := qs25.length) (xs' := rowC filC (spoilL qs25 (k + 1))) rfl (rfl) (by rw [← spoilL_next (by omega)]; exact rowC_set filC_len (x := spoilt) (by rw [spoilL_len _ (by omega)]; omega))
        refine gl_done rfl ?_
        refine bkN ?_
        refine sw_next ?_
        refine sw_region ?_  -- R14 law.go:91
        refine gl_ops 2 [(0, .slice Aa ac.length ca), (4, .pointer (some ⟨db3, 0, none⟩)), (5, .pointer (some ⟨xb7, 0, none⟩)), (6, .int .i64 ((i : Nat) : Int)), (7, .bool true), (8, .slice A31 qs25.length c32), (9, .bool true), (50, .int .i64 (IntKind.i64.wrap (((k : Nat) : Int) + 1)))] (by kernel_rfl) ?_
        refine gl_cv 50 (.int .i64 ((k + 1 : Nat) : Int)) (cv_i64 (by omega)) rfl ?_
        refine gl_ops 1 [(0, .slice Aa ac.length ca), (4, .pointer (some ⟨db3, 0, none⟩)), (5, .pointer (some ⟨xb7, 0, none⟩)), (6, .int .i64 ((i : Nat) : Int)), (7, .bool true), (8, .slice A31 qs25.length c32), (9, .bool true), (10, .int .i64 ((k + 1 : Nat) : Int))] (by kernel_rfl) ?_
        refine gl_done rfl ?_
        refine rnd_end (g := (k)) (k + 1) (by kernel_rfl) ?_ ?_
        replace hH : Hp w w50 _ _ [filRs (qs25.drop (k + 1)), .grp (dskO db3 mb4 ab15 D14 es16), .grp (rdkO xb7 rv17 (D14).off (actsI (D14).ar) part18 L19), .row (.slice A31 qs25.length c32) 89 3 qs25.length (rowC filC (spoilL qs25 (k + 1))), .row (.slice (some ⟨b43, 0, none⟩) 1 1) 22 1 1 [.slice Aq f.b.length cq]] := hH
        replace hH := hH.pick [1, 2, 3, 0, 4] (by kernel_rfl) (os' := [.grp (dskO db3 mb4 ab15 D14 es16), .grp (rdkO xb7 rv17 (D14).off (actsI (D14).ar) part18 L19), .row (.slice A31 qs25.length c32) 89 3 qs25.length (rowC filC (spoilL qs25 (k + 1))), filRs (qs25.drop (k + 1)), .row (.slice (some ⟨b43, 0, none⟩) 1 1) 22 1 1 [.slice Aq f.b.length cq]]) (by kernel_rfl)
        replace hH := (hH.sublist (.cons_cons _ (.cons_cons _ (.cons_cons _ (.cons_cons _ (List.nil_sublist _))))))
        replace hH : Hp w w50 _ _ [.grp (dskO db3 mb4 ab15 D14 es16), .grp (rdkO xb7 rv17 (D14).off (actsI (D14).ar) part18 L19), .row (.slice A31 qs25.length c32) 89 3 qs25.length (rowC filC (spoilL qs25 (k + 1))), filRs (qs25.drop (k + 1))] := hH
        · exact ⟨by omega, hH⟩
        · show qs25.length - (k + 1) < qs25.length - k; omega
      try simp only [decide_eq_false_iff_not, beq_eq_false_iff_ne, bne_eq_false_iff_eq, ne_eq, Decidable.not_not, Int.not_lt, Int.not_le, Bool.not_eq_false', beq_iff_eq, bne_iff_ne, decide_eq_true_eq] at hc4
      refine sw_exit ?_
      refine thX ?_
      refine thX ?_
      refine bkH ?_
      refine sw_next ?_
      refine sw_seq ?_
      refine sw_draw (by kernel_rfl) (fun w_ => Hp w w_ (w.cell?) [] [.grp (rdkO xb7 rv17 (D14).off (actsI (D14).ar) part18 L19), .row (.slice A31 qs25.length c32) 89 3 qs25.length (rowC filC (spoilL qs25 k)), filRs (qs25.drop k)]) ?_  -- R17 law.go:95
      replace hH := hH.drew
      generalize { w39 with drawn := w39.drawn + 1 } = w51 at hH ⊢
      have hS9 := hH.sublist (.cons _ (.cons_cons _ (.cons_cons _ (.cons_cons _ (List.nil_sublist _)))))
      refine gd_pure 0 rfl (by kernel_rfl) (PQ.th (PQ.bk (PQ.th (PQ.th (PQ.bk (PQ.th PQ.body)))))) hS9 rfl rfl (.bool true) (by kernel_rfl) ?_
      refine gd_pure 1 rfl (by kernel_rfl) (PQ.th (PQ.bk (PQ.th (PQ.th (PQ.bk (PQ.th PQ.body)))))) hS9 rfl rfl (.bool false) (by kernel_rfl) ?_
      refine gd_pure 2 rfl (by kernel_rfl) (PQ.th (PQ.bk (PQ.th (PQ.th (PQ.bk (PQ.th PQ.body)))))) hS9 rfl rfl (.bool false) (by kernel_rfl) ?_
      refine gd_keep [(0, .slice Aa ac.length ca), (4, .pointer (some ⟨db3, 0, none⟩)), (5, .pointer (some ⟨xb7, 0, none⟩)), (6, .int .i64 ((i : Nat) : Int)), (9, .bool true), (64, .bool false)] (by kernel_rfl) ?_
      refine gd_pure 3 rfl (by kernel_rfl) (PQ.th (PQ.bk (PQ.th (PQ.th (PQ.bk (PQ.th PQ.body)))))) hS9 rfl rfl (.bool true) (by kernel_rfl) ?_
      refine gd_pure 4 rfl (by kernel_rfl) (PQ.th (PQ.bk (PQ.th (PQ.th (PQ.bk (PQ.th PQ.body)))))) hS9 rfl rfl (.bool false) (by kernel_rfl) ?_
      refine gd_pure 5 rfl (by kernel_rfl) (PQ.th (PQ.bk (PQ.th (PQ.th (PQ.bk (PQ.th PQ.body)))))) hS9 rfl rfl (.bool false) (by kernel_rfl) ?_
      refine gd_keep [(0, .slice Aa ac.length ca), (4, .pointer (some ⟨db3, 0, none⟩)), (5, .pointer (some ⟨xb7, 0, none⟩)), (6, .int .i64 ((i : Nat) : Int)), (67, .bool false)] (by kernel_rfl) ?_
      refine gd_pure 6 rfl (by kernel_rfl) (PQ.th (PQ.bk (PQ.th (PQ.th (PQ.bk (PQ.th PQ.body)))))) hS9 rfl rfl (.bool false) (by kernel_rfl) ?_
      refine gd_pure 7 rfl (by kernel_rfl) (PQ.th (PQ.bk (PQ.th (PQ.th (PQ.bk (PQ.th PQ.body)))))) hS9 rfl rfl (.pointer (some ⟨db3, 0, none⟩)) (by kernel_rfl) ?_
      refine gd_pure 9 rfl (by kernel_rfl) (PQ.th (PQ.bk (PQ.th (PQ.th (PQ.bk (PQ.th PQ.body)))))) hS9 rfl rfl (.pointer (some ⟨xb7, 0, none⟩)) (by kernel_rfl) ?_
      refine gd_keep [(0, .slice Aa ac.length ca), (4, .pointer (some ⟨db3, 0, none⟩)), (5, .pointer (some ⟨xb7, 0, none⟩)), (6, .int .i64 ((i : Nat) : Int)), (68, .bool false), (69, .pointer (some ⟨db3, 0, none⟩)), (71, .pointer (some ⟨xb7, 0, none⟩))] (by kernel_rfl) ?_
      refine gd_pure 10 rfl (by kernel_rfl) (PQ.th (PQ.bk (PQ.th (PQ.th (PQ.bk (PQ.th PQ.body)))))) hS9 rfl rfl (.pointer (some ⟨xb7, 0, none⟩)) (by kernel_rfl) ?_
      refine gd_pure 11 rfl (by kernel_rfl) (PQ.th (PQ.bk (PQ.th (PQ.th (PQ.bk (PQ.th PQ.body)))))) hS9 rfl rfl (.pointer (some ⟨xb7, 1, none⟩)) (by kernel_rfl) ?_
      refine gd_q 12 rfl (by kernel_rfl) (PQ.th (PQ.bk (PQ.th (PQ.th (PQ.bk (PQ.th PQ.body)))))) hS9 rfl rfl (fun w_ hS => (rd_load (by kernel_rfl) rfl (rdk_c1 hS 0 rfl))) ?_
      refine gd_keep [(0, .slice Aa ac.length ca), (4, .pointer (some ⟨db3, 0, none⟩)), (5, .pointer (some ⟨xb7, 0, none⟩)), (6, .int .i64 ((i : Nat) : Int)), (68, .bool false), (69, .pointer (some ⟨db3, 0, none⟩)), (74, .bool D14.off)] (by kernel_rfl) ?_
      replace hH : Hp w w51 _ _ ([.grp (dskO db3 mb4 ab15 D14 es16)] ++ [.grp (rdkO xb7 rv17 (D14).off (actsI (D14).ar) part18 L19), .row (.slice A31 qs25.length c32) 89 3 qs25.length (rowC filC (spoilL qs25 k)), filRs (qs25.drop k)]) := hH
      refine gd_st 8 (by kernel_rfl) (st_call rfl rfl rfl (by kernel_rfl) rfl (Down_ct db3 mb4 ab15 D14 es16 _ hH.mine) ?_)
      rintro _ w52 ⟨rfl, hF53⟩
      replace hH := hH.turns hF53; clear hF53
      replace hH : Hp w w52 _ _ [.grp (rdkO xb7 rv17 (D14).off (actsI (D14).ar) part18 L19), .row (.slice A31 qs25.length c32) 89 3 qs25.length (rowC filC (spoilL qs25 k)), filRs (qs25.drop k), .grp (dskO db3 mb4 ab15 D14 es16)] := hH
      replace hS9 := hH.sublist (.cons_cons _ (.cons_cons _ (.cons_cons _ (List.nil_sublist _))))
      refine ⟨hS9, ?_⟩
      refine gd_keep [(0, .slice Aa ac.length ca), (4, .pointer (some ⟨db3, 0, none⟩)), (5, .pointer (some ⟨xb7, 0, none⟩)), (6, .int .i64 ((i : Nat) : Int)), (68, .bool false), (70, .bool D14.off), (74, .bool D14.off)] (by kernel_rfl) ?_
      refine gd_pure 13 rfl (by kernel_rfl) (PQ.th (PQ.bk (PQ.th (PQ.th (PQ.bk (PQ.th PQ.body)))))) hS9 rfl rfl (.bool (D14.off != D14.off)) (by kernel_rfl) ?_
      refine gd_cv 75 (.bool false) (by rw [bne_self_eq_false]) rfl ?_
      refine gd_pure 14 rfl (by kernel_rfl) (PQ.th (PQ.bk (PQ.th (PQ.th (PQ.bk (PQ.th PQ.body)))))) hS9 rfl rfl (.bool false) (by kernel_rfl) ?_
      refine gd_pure 15 rfl (by kernel_rfl) (PQ.th (PQ.bk (PQ.th (PQ.th (PQ.bk (PQ.th PQ.body)))))) hS9 rfl rfl (.bool false) (by kernel_rfl) ?_
      refine gd_keep [(0, .slice Aa ac.length ca), (4, .pointer (some ⟨db3, 0, none⟩)), (5, .pointer (some ⟨xb7, 0, none⟩)), (6, .int .i64 ((i : Nat) : Int)), (77, .bool false)] (by kernel_rfl) ?_
      refine gd_pure 16 rfl (by kernel_rfl) (PQ.th (PQ.bk (PQ.th (PQ.th (PQ.bk (PQ.th PQ.body)))))) hS9 rfl rfl (.pointer (some ⟨db3, 0, none⟩)) (by kernel_rfl) ?_
      refine gd_pure 18 rfl (by kernel_rfl) (PQ.th (PQ.bk (PQ.th (PQ.th (PQ.bk (PQ.th PQ.body)))))) hS9 rfl rfl (.pointer (some ⟨xb7, 0, none⟩)) (by kernel_rfl) ?_
      refine gd_pure 19 rfl (by kernel_rfl) (PQ.th (PQ.bk (PQ.th (PQ.th (PQ.bk (PQ.th PQ.body)))))) hS9 rfl rfl (.pointer (some ⟨xb7, 0, none⟩)) (by kernel_rfl) ?_
      refine gd_keep [(0, .slice Aa ac.length ca), (4, .pointer (some ⟨db3, 0, none⟩)), (5, .pointer (some ⟨xb7, 0, none⟩)), (6, .int .i64 ((i : Nat) : Int)), (77, .bool false), (78, .pointer (some ⟨db3, 0, none⟩)), (81, .pointer (some ⟨xb7, 0, none⟩))] (by kernel_rfl) ?_
      refine gd_pure 20 rfl (by kernel_rfl) (PQ.th (PQ.bk (PQ.th (PQ.th (PQ.bk (PQ.th PQ.body)))))) hS9 rfl rfl (.pointer (some ⟨xb7, 0, none⟩)) (by kernel_rfl) ?_
      refine gd_q 21 rfl (by kernel_rfl) (PQ.th (PQ.bk (PQ.th (PQ.th (PQ.bk (PQ.th PQ.body)))))) hS9 rfl rfl (fun w_ hS => (rd_load (by kernel_rfl) rfl (rdk_c0 hS 0 rfl))) ?_
      replace hH : Hp w w52 _ _ [.grp (rdkO xb7 rv17 (D14).off (actsI (D14).ar) part18 L19), .row (.slice A31 qs25.length c32) 89 3 qs25.length (rowC filC (spoilL qs25 k)), filRs (qs25.drop k), .grp (dskO db3 mb4 ab15 D14 es16)] := hH
      replace hH := hH.pick [3, 0, 1, 2] (by kernel_rfl) (os' := [.grp (dskO db3 mb4 ab15 D14 es16), .grp (rdkO xb7 rv17 (D14).off (actsI (D14).ar) part18 L19), .row (.slice A31 qs25.length c32) 89 3 qs25.length (rowC filC (spoilL qs25 k)), filRs (qs25.drop k)]) (by kernel_rfl)
      replace hH : Hp w w52 _ _ ([.grp (dskO db3 mb4 ab15 D14 es16)] ++ [.grp (rdkO xb7 rv17 (D14).off (actsI (D14).ar) part18 L19), .row (.slice A31 qs25.length c32) 89 3 qs25.length (rowC filC (spoilL qs25 k)), filRs (qs25.drop k)]) := hH
      refine gd_st 17 (by kernel_rfl) (st_call rfl rfl rfl (by kernel_rfl) rfl (Files_ct db3 mb4 ab15 D14 es16 _ _ hH.mine hI20.rep hI20.good (by omega) (by have := hI20.len; omega)) ?_)
      rintro _ w59 ⟨v54, qs55, rfl, hqs56, hF60⟩
      replace hH := hH.turns hF60; clear hF60
      replace hH : Hp w w59 _ _ [.grp (rdkO xb7 rv17 (D14).off (actsI (D14).ar) part18 L19), .row (.slice A31 qs25.length c32) 89 3 qs25.length (rowC filC (spoilL qs25 k)), filRs (qs25.drop k), .grp (dskO db3 mb4 ab15 D14 es16), .row _ 89 3 qs55.length (rowC filC qs55), filRs qs55] := hH
      obtain ⟨A61, c62, rfl, hl63, hm64⟩ := hH.row_form 4 rfl
      replace hS9 := hH.sublist (.cons_cons _ (.cons_cons _ (.cons_cons _ (List.nil_sublist _))))
      refine ⟨hS9, ?_⟩
      refine gd_keep [(0, .slice Aa ac.length ca), (4, .pointer (some ⟨db3, 0, none⟩)), (5, .pointer (some ⟨xb7, 0, none⟩)), (6, .int .i64 ((i : Nat) : Int)), (77, .bool false), (79, .slice A61 qs55.length c62), (83, rv17)] (by kernel_rfl) ?_
      refine gd_st 22 (by kernel_rfl) (st_call rfl rfl rfl (by kernel_rfl) rfl (Same18_ct _ _ qs55 L19 _ (hH.row_reads 4 rfl) (rdk_rw hH 0 rfl) (rs_rbs hH 5 rfl) (rdk_rbs hH 0 rfl)) ?_)
      rintro _ w67 ⟨bS65, rfl, hbS66, hF68⟩
      replace hH := hH.call hF68; clear hF68
      have e9 : bS65 = true := hbS66.2 (hqs56.trans hI20.fst.symm)
      subst e9
      replace hS9 := hH.sublist (.cons_cons _ (.cons_cons _ (.cons_cons _ (List.nil_sublist _))))
      refine ⟨hS9, ?_⟩
      refine gd_keep [(0, .slice Aa ac.length ca), (4, .pointer (some ⟨db3, 0, none⟩)), (5, .pointer (some ⟨xb7, 0, none⟩)), (6, .int .i64 ((i : Nat) : Int)), (77, .bool false), (84, .bool true)] (by kernel_rfl) ?_
      refine gd_pure 23 rfl (by kernel_rfl) (PQ.th (PQ.bk (PQ.th (PQ.th (PQ.bk (PQ.th PQ.body)))))) hS9 rfl rfl (.bool false) (by kernel_rfl) ?_
      refine gd_pure 24 rfl (by kernel_rfl) (PQ.th (PQ.bk (PQ.th (PQ.th (PQ.bk (PQ.th PQ.body)))))) hS9 rfl rfl (.bool false) (by kernel_rfl) ?_
      refine gd_done (by kernel_rfl) ?_
      refine at_sub [(0, .slice Aa ac.length ca), (4, .pointer (some ⟨db3, 0, none⟩)), (5, .pointer (some ⟨xb7, 0, none⟩)), (6, .int .i64 ((i : Nat) : Int)), (86, .bool false)] (Sub.of_eq (by kernel_rfl)) ?_
      refine sw_next ?_
      refine sw_false rfl rfl ?_
      refine sw_skip ?_
      refine bkN ?_
      refine sw_next ?_
      refine sw_region ?_  -- R8 law.go:87
      refine gl_ops 2 [(0, .slice Aa ac.length ca), (4, .pointer (some ⟨db3, 0, none⟩)), (5, .pointer (some ⟨xb7, 0, none⟩)), (29, .int .i64 (IntKind.i64.wrap (((i : Nat) : Int) + 1)))] (by kernel_rfl) ?_
      refine gl_cv 29 (.int .i64 ((i + 1 : Nat) : Int)) (cv_i64 (by omega)) rfl ?_
      refine gl_ops 1 [(0, .slice Aa ac.length ca), (4, .pointer (some ⟨db3, 0, none⟩)), (5, .pointer (some ⟨xb7, 0, none⟩)), (6, .int .i64 ((i + 1 : Nat) : Int))] (by kernel_rfl) ?_
      refine gl_done rfl ?_
      refine rnd_end (g := (i, D, es, ab, rv, part, L)) (i + 1, D14, es16, ab15, rv17, part18, L19) (by kernel_rfl) ?_ ?_
      replace hH : Hp w w67 _ _ [.grp (rdkO xb7 rv17 (D14).off (actsI (D14).ar) part18 L19), .row (.slice A31 qs25.length c32) 89 3 qs25.length (rowC filC (spoilL qs25 k)), filRs (qs25.drop k), .grp (dskO db3 mb4 ab15 D14 es16), .row (.slice A61 qs55.length c62) 89 3 qs55.length (rowC filC qs55), filRs qs55] := hH
      replace hH := hH.pick [3, 0, 1, 2, 4, 5] (by kernel_rfl) (os' := [.grp (dskO db3 mb4 ab15 D14 es16), .grp (rdkO xb7 rv17 (D14).off (actsI (D14).ar) part18 L19), .row (.slice A31 qs25.length c32) 89 3 qs25.length (rowC filC (spoilL qs25 k)), filRs (qs25.drop k), .row (.slice A61 qs55.length c62) 89 3 qs55.length (rowC filC qs55), filRs qs55]) (by kernel_rfl)
      replace hH := (hH.sublist (.cons_cons _ (.cons_cons _ (List.nil_sublist _))))
      replace hH : Hp w w67 _ _ [.grp (dskO db3 mb4 ab15 D14 es16), .grp (rdkO xb7 rv17 (D14).off (actsI (D14).ar) part18 L19)] := hH
      · exact ⟨by omega, by omega, hI20, hH⟩
      · show ac.length - (i + 1) < ac.length - i; omega
    try simp only [decide_eq_false_iff_not, beq_eq_false_iff_ne, bne_eq_false_iff_eq, ne_eq, Decidable.not_not, Int.not_lt, Int.not_le, Bool.not_eq_false', beq_iff_eq, bne_iff_ne, decide_eq_true_eq] at hc3
    refine sw_exit ?_
    refine thX ?_
    refine thX ?_
    refine bkH ?_
    refine sw_next ?_
    refine sw_seq ?_
    refine sw_region ?_  -- R19 law.go:99
    refine gl_ops 1 [(2, .bool true)] (by kernel_rfl) ?_
    refine gl_done rfl ?_
    refine sw_next ?_
    refine sw_ret ?_
    refine ret1 rfl rfl  ?_
    exact ⟨rfl, (hH.sublist (List.nil_sublist _)).fresh⟩
  try simp only [decide_eq_false_iff_not, beq_eq_false_iff_ne, bne_eq_false_iff_eq, ne_eq, Decidable.not_not, Int.not_lt, Int.not_le, Bool.not_eq_false', beq_iff_eq, bne_iff_ne, decide_eq_true_eq] at hg2
  refine gl_ops 3 [(0, .slice Aa ac.length ca), (4, .pointer (some ⟨db3, 0, none⟩)), (5, .pointer (some ⟨xb7, 0, none⟩)), (6, .int .i64 ((i : Nat) : Int)), (27, .bool false)] (by kernel_rfl) ?_
  refine gl_done rfl ?_
  refine sw_next ?_
  refine sw_false rfl rfl ?_
  refine sw_exit ?_
  refine thX ?_
  refine thX ?_
  refine bkH ?_
  refine sw_next ?_
  refine sw_seq ?_
  refine sw_region ?_  -- R19 law.go:99
  refine gl_ops 1 [(2, .bool true)] (by kernel_rfl) ?_
  refine gl_done rfl ?_
  refine sw_next ?_
  refine sw_ret ?_
  refine ret1 rfl rfl  ?_
  exact ⟨rfl, (hH.sublist (List.nil_sublist _)).fresh⟩
end Go.Proofs.YtjcchjgkkplamaaDoor
