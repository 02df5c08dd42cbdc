/- Law 18: what is sure of a file lasts: the law's walk. -/
import Derived.Test.YtjcchjgkkplamaaDoorDiskC
set_option maxRecDepth 100000
set_option maxHeartbeats 4000000
set_option linter.unusedVariables false
set_option linter.unusedSimpArgs false
namespace Go.Proofs.YtjcchjgkkplamaaDoor
open Go.RowKit Go.SW
theorem last_facts {f f' : Fil} (h : Last f f') (hs : f.sure ≤ f.b.length) {sv : List UInt8} (e : sv = f.b.take f.sure) : sv.length ≤ f'.b.length ∧ f'.b.take sv.length = sv ∧ sv.length ≤ f'.sure ∧ f'.sure ≤ f'.b.length := by
  obtain ⟨h1, h2, h3⟩ := h
  have hl : sv.length = f.sure := by rw [e, List.length_take]; omega
  refine ⟨by omega, ?_, by omega, h2⟩
  rw [hl, h3, e]

theorem DiskLasts_ct (nm : List UInt8) (va : Value) (ac : List AV) (w : World) (hG : w.cell? ⟨0, 0, none⟩ = some errTy) (hR : Row w.cell? va 6 ac.length (rowC actC ac)) (hok : ∀ a ∈ ac, ActOk w a) (hB : sumB ac ≤ 1048576) :
    Fun Tryd.prog 9 [.string (bs nm), va] w fun v w' => v = .bool true ∧ Fresh w w' [] := by
  obtain ⟨Aa, ca, rfl, ha1, ha2⟩ := hR.form
  have ha3 := ha2
  simp only [maxLen] at ha3
  refine fun_of_sw Tryd.func9 rfl 110 rfl rfl ?_
  have hH := Hp.start w
  refine sw_seq ?_
  refine sw_region ?_  -- R0 law.go:103
  refine gl_ops 1 [(0, .string (bs nm)), (1, .slice Aa ac.length ca)] (by kernel_rfl) ?_
  refine gl_done rfl ?_
  refine sw_next ?_
  refine sw_seq ?_
  refine sw_region ?_  -- R1 law.go:104
  refine gl_st (st_call rfl rfl rfl (by kernel_rfl) rfl (Small18_ct _ (hH.zin _ _ hG)) ?_)
  rintro _ w1 ⟨rfl, hF2⟩
  replace hH := hH.call hF2; clear hF2
  refine gl_ops 1 [(0, .string (bs nm)), (1, .slice Aa ac.length ca), (5, .bool true)] (by kernel_rfl) ?_
  refine gl_done rfl ?_
  refine sw_next ?_
  refine sw_seq ?_
  refine sw_region ?_  -- R2 law.go:105
  refine gl_st (st_call rfl rfl rfl (by kernel_rfl) rfl (DNew_ct _) ?_)
  rintro _ w5 ⟨db3, mb4, rfl, hF6⟩
  replace hH := hH.call hF6; clear hF6
  refine gl_ops 1 [(0, .string (bs nm)), (1, .slice Aa ac.length ca), (5, .bool true), (6, .pointer (some ⟨db3, 0, none⟩))] (by kernel_rfl) ?_
  refine gl_done rfl ?_
  refine sw_next ?_
  refine sw_seq ?_
  refine sw_seq ?_
  refine sw_region ?_  -- R3 law.go:106
  refine gl_ops 6 [(0, .string (bs nm)), (1, .slice Aa ac.length ca), (6, .pointer (some ⟨db3, 0, none⟩)), (22, .bool false)] (by kernel_rfl) ?_
  refine gl_done rfl ?_
  refine sw_next ?_
  refine sw_false rfl rfl ?_
  refine sw_skip ?_
  refine sw_next ?_
  refine sw_seq ?_
  refine sw_region ?_  -- R5 law.go:109
  refine gl_st (st_call rfl rfl rfl (by kernel_rfl) rfl (RNew18_ct _) ?_)
  rintro _ w8 ⟨xb7, rfl, hF9⟩
  replace hH := hH.call hF9; clear hF9
  refine gl_ops 1 [(0, .string (bs nm)), (1, .slice Aa ac.length ca), (6, .pointer (some ⟨db3, 0, none⟩)), (7, .pointer (some ⟨xb7, 0, none⟩))] (by kernel_rfl) ?_
  refine gl_done rfl ?_
  refine sw_next ?_
  refine sw_seq ?_
  refine sw_region ?_  -- R6 law.go:110
  refine gl_ops 1 [(0, .string (bs nm)), (1, .slice Aa ac.length ca), (6, .pointer (some ⟨db3, 0, none⟩)), (7, .pointer (some ⟨xb7, 0, none⟩)), (8, .string (bs []))] (by kernel_rfl) ?_
  refine gl_done rfl ?_
  refine sw_next ?_
  refine sw_seq ?_
  refine sw_seq ?_
  refine sw_region ?_  -- R7 law.go:111
  refine gl_ops 1 [(0, .string (bs nm)), (1, .slice Aa ac.length ca), (6, .pointer (some ⟨db3, 0, none⟩)), (7, .pointer (some ⟨xb7, 0, none⟩)), (8, .string (bs [])), (9, .int .i64 0)] (by kernel_rfl) ?_
  refine gl_done rfl ?_
  refine sw_next ?_
  refine sw_block ?_
  replace hH := (hH.sublist (.cons_cons _ (.cons_cons _ (List.nil_sublist _))))
  replace hH : Hp w w8 _ _ [.grp (dskO db3 mb4 0 ⟨[], false, none⟩ []), .grp (rdkO xb7 (.slice none 0 0) false (-1) 0 [])] := hH
  refine sw_loop (γ := Nat × Dsk × List PE × Nat × Value × Int × FV × List UInt8) (fun (i, D, es, ab, rv, part, L, sv) => [(0, .string (bs nm)), (1, .slice Aa ac.length ca), (6, .pointer (some ⟨db3, 0, none⟩)), (7, .pointer (some ⟨xb7, 0, none⟩)), (8, .string (bs sv)), (9, .int .i64 ((i : Nat) : Int))]) (fun (i, D, es, ab, rv, part, L, sv) w_ => (i ≤ ac.length) ∧ (i ≤ 200) ∧ (Inv D es L part (sumB (ac.take i)) i) ∧ (sv = (oldF D.fs nm).b.take (oldF D.fs nm).sure) ∧ Hp w w_ (w.cell?) [] [.grp (dskO db3 mb4 ab D es), .grp (rdkO xb7 rv (D).off (actsI (D).ar) part L)]) (fun (i, D, es, ab, rv, part, L, sv) => ac.length - i) (0, ⟨[], false, none⟩, [], 0, .slice none 0 0, 0, [], []) (Sub.of_eq (by kernel_rfl)) ?_ ?_
  · exact ⟨by omega, by omega, inv_new _, rfl, hH⟩
  clear hH
  rintro ⟨i, D, es, ab, rv, part, L, sv⟩ w10 ⟨hi, hi2, hI, hsv, hH⟩
  have hal := sumB_le ac i
  refine sw_keep [(0, .string (bs nm)), (1, .slice Aa ac.length ca), (6, .pointer (some ⟨db3, 0, none⟩)), (7, .pointer (some ⟨xb7, 0, none⟩)), (8, .string (bs sv)), (9, .int .i64 ((i : Nat) : Int))] (by kernel_rfl) ?_
  refine sw_seq ?_
  refine sw_seq ?_
  refine sw_region ?_  -- R8 law.go:111
  refine gl_ops 2 [(0, .string (bs nm)), (1, .slice Aa ac.length ca), (6, .pointer (some ⟨db3, 0, none⟩)), (7, .pointer (some ⟨xb7, 0, none⟩)), (8, .string (bs sv)), (9, .int .i64 ((i : Nat) : Int)), (24, .int .i64 ((i : Nat) : Int)), (25, .slice Aa ac.length ca)] (by kernel_rfl) ?_
  refine gl_q rfl rfl rfl (rd_len (e := 77) (by kernel_rfl) rfl) ?_
  refine gl_ops 2 [(0, .string (bs nm)), (1, .slice Aa ac.length ca), (6, .pointer (some ⟨db3, 0, none⟩)), (7, .pointer (some ⟨xb7, 0, none⟩)), (8, .string (bs sv)), (9, .int .i64 ((i : Nat) : Int)), (28, .bool (decide (((i : Nat) : Int) < ((ac.length : Nat) : Int))))] (by kernel_rfl) ?_
  refine gl_split 28 (b := decide (((i : Nat) : Int) < ((ac.length : Nat) : Int))) rfl (fun hg2 => ?_) (fun hg2 => ?_)
  ·
    try simp only [decide_eq_true_eq, beq_iff_eq, bne_iff_ne, ne_eq, Bool.not_eq_true', beq_eq_false_iff_ne, bne_eq_false_iff_eq, decide_eq_false_iff_not, Int.not_lt, Int.not_le] at hg2
    refine gl_ops 3 [(0, .string (bs nm)), (1, .slice Aa ac.length ca), (6, .pointer (some ⟨db3, 0, none⟩)), (7, .pointer (some ⟨xb7, 0, none⟩)), (8, .string (bs sv)), (9, .int .i64 ((i : Nat) : Int)), (31, .bool (decide (((i : Nat) : Int) < (200 : Int))))] (by kernel_rfl) ?_
    refine gl_done rfl ?_
    refine sw_next ?_
    refine sw_cond rfl rfl (fun hc3 => ?_) (fun hc3 => ?_)
    ·
      try simp only [decide_eq_true_eq, beq_iff_eq, bne_iff_ne, ne_eq, Bool.not_eq_true', beq_eq_false_iff_ne, bne_eq_false_iff_eq, decide_eq_false_iff_not, Int.not_lt, Int.not_le] at hc3
      refine sw_skip ?_
      refine sw_next ?_
      refine sw_seq ?_
      refine sw_block ?_
      refine sw_seq ?_
      obtain ⟨a, ha⟩ : ∃ a, ac[i]? = some a := ⟨_, List.getElem?_eq_getElem (by omega)⟩
      have hka := hok a (List.mem_of_getElem? ha)
      have hs1 := sumB_next ha
      have hs2 := sumB_le ac (i + 1)
      obtain ⟨hka1, hka2, hka3, hka4, hka5⟩ := hka
      have hvb1 : a.vb.oneCell' = true := by obtain ⟨_, _, h9, _⟩ := hka1.row.form; rw [h9]; rfl
      have hvb2 : a.vl.oneCell' = true := by obtain ⟨_, _, h9, _⟩ := hka2.form; rw [h9]; rfl
      refine sw_region ?_  -- R10 law.go:112
      obtain ⟨p11, hi13, hp12⟩ := hR.idx i (by omega) (by decide)
      refine gl_ops 2 [(0, .string (bs nm)), (1, .slice Aa ac.length ca), (6, .pointer (some ⟨db3, 0, none⟩)), (7, .pointer (some ⟨xb7, 0, none⟩)), (8, .string (bs sv)), (9, .int .i64 ((i : Nat) : Int)), (34, .slice Aa ac.length ca), (35, .int .i64 ((i : Nat) : Int))] (by kernel_rfl) ?_
      refine gl_q rfl rfl rfl (rd_idx (e := 77) (m := 6) (by kernel_rfl) (by kernel_rfl) rfl rfl hi13) ?_
      refine gl_q rfl rfl rfl (rd_loadZA (by kernel_rfl) hH hp12 rfl 0 rfl [.int .i64 a.dv, .string (bs a.nm), a.vb, .int .i64 a.n, .int .i64 a.m, a.vl] (by kernel_rfl) (rowC_all actC_len ha 0 _ rfl)) ?_
      refine gl_st (st_allocH rfl rfl rfl (cs := [.int .i64 0, .string (bs []), .slice none 0 0, .int .i64 0, .int .i64 0, .slice none 0 0]) (by kernel_rfl) hH ?_)
      clear hH; intro b14 w15 hH
      refine gl_st (st_storeKA (vs := [.int .i64 a.dv, .string (bs a.nm), a.vb, .int .i64 a.n, .int .i64 a.m, a.vl]) 2 rfl rfl rfl hH rfl rfl (by simp only [List.all_cons, List.all_nil, hvb1, hvb2]; rfl) (by kernel_rfl) rfl (by simp) [.int .i64 a.dv, .string (bs a.nm), a.vb, .int .i64 a.n, .int .i64 a.m, a.vl] rfl ?_)
      clear hH; intro w16 hH
      refine gl_done rfl ?_
      refine sw_next ?_
      refine sw_seq ?_
      refine sw_seq ?_
      refine sw_region ?_  -- R11 law.go:113
      refine gl_ops 1 [(0, .string (bs nm)), (1, .slice Aa ac.length ca), (6, .pointer (some ⟨db3, 0, none⟩)), (7, .pointer (some ⟨xb7, 0, none⟩)), (8, .string (bs sv)), (9, .int .i64 ((i : Nat) : Int)), (10, .pointer (some ⟨b14, 0, none⟩)), (38, .pointer (some ⟨b14, 1, none⟩))] (by kernel_rfl) ?_
      refine gl_q rfl rfl rfl (rd_loadK 2 (by kernel_rfl) hH rfl rfl rfl) ?_
      refine gl_ops 1 [(0, .string (bs nm)), (1, .slice Aa ac.length ca), (6, .pointer (some ⟨db3, 0, none⟩)), (7, .pointer (some ⟨xb7, 0, none⟩)), (8, .string (bs sv)), (9, .int .i64 ((i : Nat) : Int)), (10, .pointer (some ⟨b14, 0, none⟩)), (39, .string (bs a.nm)), (40, .string (bs nm))] (by kernel_rfl) ?_
      refine gl_q rfl rfl rfl (rd_seql (by kernel_rfl) rfl rfl) ?_
      refine gl_ops 1 [(0, .string (bs nm)), (1, .slice Aa ac.length ca), (6, .pointer (some ⟨db3, 0, none⟩)), (7, .pointer (some ⟨xb7, 0, none⟩)), (8, .string (bs sv)), (9, .int .i64 ((i : Nat) : Int)), (10, .pointer (some ⟨b14, 0, none⟩)), (42, .bool (a.nm == nm))] (by kernel_rfl) ?_
      refine gl_split 42 (b := a.nm == nm) rfl (fun hg4 => ?_) (fun hg4 => ?_)
      ·
        try simp only [decide_eq_true_eq, beq_iff_eq, bne_iff_ne, ne_eq, Bool.not_eq_true', beq_eq_false_iff_ne, bne_eq_false_iff_eq, decide_eq_false_iff_not, Int.not_lt, Int.not_le] at hg4
        have hn9 := hg4
        refine gl_ops 1 [(0, .string (bs nm)), (1, .slice Aa ac.length ca), (6, .pointer (some ⟨db3, 0, none⟩)), (7, .pointer (some ⟨xb7, 0, none⟩)), (8, .string (bs sv)), (9, .int .i64 ((i : Nat) : Int)), (10, .pointer (some ⟨b14, 0, none⟩)), (42, .bool true), (43, .pointer (some ⟨b14, 0, none⟩))] (by kernel_rfl) ?_
        refine gl_q rfl rfl rfl (rd_loadK 2 (by kernel_rfl) hH rfl rfl rfl) ?_
        refine gl_ops 3 [(0, .string (bs nm)), (1, .slice Aa ac.length ca), (6, .pointer (some ⟨db3, 0, none⟩)), (7, .pointer (some ⟨xb7, 0, none⟩)), (8, .string (bs sv)), (9, .int .i64 ((i : Nat) : Int)), (10, .pointer (some ⟨b14, 0, none⟩)), (47, .bool (decide ((a.dv : Int) ≥ (2 : Int))))] (by kernel_rfl) ?_
        refine gl_split 47 (b := decide ((a.dv : Int) ≥ (2 : Int))) rfl (fun hg5 => ?_) (fun hg5 => ?_)
        ·
          try simp only [decide_eq_true_eq, beq_iff_eq, bne_iff_ne, ne_eq, Bool.not_eq_true', beq_eq_false_iff_ne, bne_eq_false_iff_eq, decide_eq_false_iff_not, Int.not_lt, Int.not_le] at hg5
          refine gl_ops 1 [(0, .string (bs nm)), (1, .slice Aa ac.length ca), (6, .pointer (some ⟨db3, 0, none⟩)), (7, .pointer (some ⟨xb7, 0, none⟩)), (8, .string (bs sv)), (9, .int .i64 ((i : Nat) : Int)), (10, .pointer (some ⟨b14, 0, none⟩)), (47, .bool true), (48, .pointer (some ⟨b14, 0, none⟩))] (by kernel_rfl) ?_
          refine gl_q rfl rfl rfl (rd_loadK 2 (by kernel_rfl) hH rfl rfl rfl) ?_
          refine gl_ops 2 [(0, .string (bs nm)), (1, .slice Aa ac.length ca), (6, .pointer (some ⟨db3, 0, none⟩)), (7, .pointer (some ⟨xb7, 0, none⟩)), (8, .string (bs sv)), (9, .int .i64 ((i : Nat) : Int)), (10, .pointer (some ⟨b14, 0, none⟩)), (51, .bool (decide ((a.dv : Int) ≤ (4 : Int))))] (by kernel_rfl) ?_
          refine gl_done rfl ?_
          refine sw_next ?_
          refine sw_cond rfl rfl (fun hc6 => ?_) (fun hc6 => ?_)
          ·
            try simp only [decide_eq_true_eq, beq_iff_eq, bne_iff_ne, ne_eq, Bool.not_eq_true', beq_eq_false_iff_ne, bne_eq_false_iff_eq, decide_eq_false_iff_not, Int.not_lt, Int.not_le] at hc6
            refine sw_exit ?_
            refine thX ?_
            refine bkH ?_
            refine sw_next ?_
            refine sw_region ?_  -- R9 law.go:111
            refine gl_ops 2 [(0, .string (bs nm)), (1, .slice Aa ac.length ca), (6, .pointer (some ⟨db3, 0, none⟩)), (7, .pointer (some ⟨xb7, 0, none⟩)), (8, .string (bs sv)), (33, .int .i64 (IntKind.i64.wrap (((i : Nat) : Int) + 1)))] (by kernel_rfl) ?_
            refine gl_cv 33 (.int .i64 ((i + 1 : Nat) : Int)) (cv_i64 (by omega)) rfl ?_
            refine gl_ops 1 [(0, .string (bs nm)), (1, .slice Aa ac.length ca), (6, .pointer (some ⟨db3, 0, none⟩)), (7, .pointer (some ⟨xb7, 0, none⟩)), (8, .string (bs sv)), (9, .int .i64 ((i + 1 : Nat) : Int))] (by kernel_rfl) ?_
            refine gl_done rfl ?_
            refine rnd_end (g := (i, D, es, ab, rv, part, L, sv)) (i + 1, D, es, ab, rv, part, L, sv) (by kernel_rfl) ?_ ?_
            replace hH := (hH.sublist (.cons_cons _ (.cons_cons _ (List.nil_sublist _))))
            replace hH : Hp w w16 _ _ [.grp (dskO db3 mb4 ab D es), .grp (rdkO xb7 rv (D).off (actsI (D).ar) part L)] := hH
            · exact ⟨by omega, by omega, inv_same hI (by omega) (by omega), hsv, hH⟩
            · show ac.length - (i + 1) < ac.length - i; omega
          try simp only [decide_eq_false_iff_not, beq_eq_false_iff_ne, bne_eq_false_iff_eq, ne_eq, Decidable.not_not, Int.not_lt, Int.not_le, Bool.not_eq_false', beq_iff_eq, bne_iff_ne, decide_eq_true_eq] at hc6
          have hskip : ¬ (a.nm = nm ∧ 2 ≤ a.dv ∧ a.dv ≤ 4) := by intro h9; omega
          refine sw_skip ?_
          refine sw_next ?_
          refine sw_seq ?_
          refine sw_region ?_  -- R12 law.go:116
          refine gl_ops 2 [(0, .string (bs nm)), (1, .slice Aa ac.length ca), (6, .pointer (some ⟨db3, 0, none⟩)), (7, .pointer (some ⟨xb7, 0, none⟩)), (8, .string (bs sv)), (9, .int .i64 ((i : Nat) : Int)), (10, .pointer (some ⟨b14, 0, none⟩)), (52, .pointer (some ⟨db3, 0, none⟩)), (53, .pointer (some ⟨xb7, 0, none⟩))] (by kernel_rfl) ?_
          refine gl_q rfl rfl rfl (rd_loadKA (m := 6) 2 (by kernel_rfl) hH rfl rfl (by kernel_rfl) [.int .i64 a.dv, .string (bs a.nm), a.vb, .int .i64 a.n, .int .i64 a.m, a.vl] rfl rfl) ?_
          obtain ⟨D17, hD24⟩ : ∃ D2, actD D a.dv a.nm a.b a.n a.m a.ks = D2 := ⟨_, rfl⟩
          replace hH : Hp w w16 _ _ ([.grp (dskO db3 mb4 ab D es), .grp (rdkO xb7 rv (D).off (actsI (D).ar) part L)] ++ [.blk b14 77 [.int .i64 a.dv, .string (bs a.nm), a.vb, .int .i64 a.n, .int .i64 a.m, a.vl]]) := hH
          refine gl_st (st_call rfl rfl rfl (by kernel_rfl) rfl (by have h9 := Act_ct db3 mb4 ab xb7 rv D es L part (sumB (ac.take i)) i a.dv a.nm a.b a.n a.m a.ks a.vb a.vl _ hH.mine hI (hka1.mono hH.zoff) (hka2.mono hH.zoff) (hH.zoff _ _ hG) (by omega) (by omega) (by omega) (by omega) (by omega) hka3; rw [hD24] at h9; exact h9) ?_)
          rintro _ w25 ⟨ab18, es19, rv20, part21, L22, rfl, hI23, hF26⟩
          replace hH := hH.turns hF26; clear hF26
          replace hH : Hp w w25 _ _ [.blk b14 77 [.int .i64 a.dv, .string (bs a.nm), a.vb, .int .i64 a.n, .int .i64 a.m, a.vl], .grp (dskO db3 mb4 ab18 D17 es19), .grp (rdkO xb7 rv20 (D17).off (actsI (D17).ar) part21 L22)] := hH
          rw [← hs1] at hI23
          refine gl_done rfl ?_
          refine sw_next ?_
          refine sw_seq ?_
          refine sw_region ?_  -- R13 law.go:117
          refine gl_ops 1 [(0, .string (bs nm)), (1, .slice Aa ac.length ca), (6, .pointer (some ⟨db3, 0, none⟩)), (7, .pointer (some ⟨xb7, 0, none⟩)), (8, .string (bs sv)), (9, .int .i64 ((i : Nat) : Int)), (56, .pointer (some ⟨db3, 0, none⟩))] (by kernel_rfl) ?_
          replace hH : Hp w w25 _ _ [.blk b14 77 [.int .i64 a.dv, .string (bs a.nm), a.vb, .int .i64 a.n, .int .i64 a.m, a.vl], .grp (dskO db3 mb4 ab18 D17 es19), .grp (rdkO xb7 rv20 (D17).off (actsI (D17).ar) part21 L22)] := hH
          replace hH := hH.pick [1, 0, 2] (by kernel_rfl) (os' := [.grp (dskO db3 mb4 ab18 D17 es19), .blk b14 77 [.int .i64 a.dv, .string (bs a.nm), a.vb, .int .i64 a.n, .int .i64 a.m, a.vl], .grp (rdkO xb7 rv20 (D17).off (actsI (D17).ar) part21 L22)]) (by kernel_rfl)
          replace hH : Hp w w25 _ _ ([.grp (dskO db3 mb4 ab18 D17 es19)] ++ [.blk b14 77 [.int .i64 a.dv, .string (bs a.nm), a.vb, .int .i64 a.n, .int .i64 a.m, a.vl], .grp (rdkO xb7 rv20 (D17).off (actsI (D17).ar) part21 L22)]) := hH
          refine gl_st (st_call rfl rfl rfl (by kernel_rfl) rfl (Files_ct db3 mb4 ab18 D17 es19 _ _ hH.mine hI23.rep hI23.good (by omega) (by have := hI23.len; omega)) ?_)
          rintro _ w32 ⟨v27, qs28, rfl, hqs29, hF33⟩
          replace hH := hH.turns hF33; clear hF33
          replace hH : Hp w w32 _ _ [.blk b14 77 [.int .i64 a.dv, .string (bs a.nm), a.vb, .int .i64 a.n, .int .i64 a.m, a.vl], .grp (rdkO xb7 rv20 (D17).off (actsI (D17).ar) part21 L22), .grp (dskO db3 mb4 ab18 D17 es19), .row _ 89 3 qs28.length (rowC filC qs28), filRs qs28] := hH
          obtain ⟨A34, c35, rfl, hl36, hm37⟩ := hH.row_form 3 rfl
          refine gl_ops 1 [(0, .string (bs nm)), (1, .slice Aa ac.length ca), (6, .pointer (some ⟨db3, 0, none⟩)), (7, .pointer (some ⟨xb7, 0, none⟩)), (8, .string (bs sv)), (9, .int .i64 ((i : Nat) : Int)), (11, .slice A34 qs28.length c35)] (by kernel_rfl) ?_
          refine gl_done rfl ?_
          refine sw_next ?_
          refine sw_seq ?_
          refine sw_region ?_  -- R14 law.go:118
          refine gl_ops 1 [(0, .string (bs nm)), (1, .slice Aa ac.length ca), (6, .pointer (some ⟨db3, 0, none⟩)), (7, .pointer (some ⟨xb7, 0, none⟩)), (8, .string (bs sv)), (9, .int .i64 ((i : Nat) : Int)), (11, .slice A34 qs28.length c35), (12, .string (bs []))] (by kernel_rfl) ?_
          refine gl_done rfl ?_
          refine sw_next ?_
          refine sw_seq ?_
          refine sw_region ?_  -- R15 law.go:119
          refine gl_ops 1 [(0, .string (bs nm)), (1, .slice Aa ac.length ca), (6, .pointer (some ⟨db3, 0, none⟩)), (7, .pointer (some ⟨xb7, 0, none⟩)), (8, .string (bs sv)), (9, .int .i64 ((i : Nat) : Int)), (11, .slice A34 qs28.length c35), (12, .string (bs [])), (13, .int .i64 0)] (by kernel_rfl) ?_
          refine gl_done rfl ?_
          refine sw_next ?_
          refine sw_seq ?_
          refine sw_seq ?_
          refine sw_region ?_  -- R16 law.go:120
          refine gl_ops 1 [(0, .string (bs nm)), (1, .slice Aa ac.length ca), (6, .pointer (some ⟨db3, 0, none⟩)), (7, .pointer (some ⟨xb7, 0, none⟩)), (8, .string (bs sv)), (9, .int .i64 ((i : Nat) : Int)), (11, .slice A34 qs28.length c35), (12, .string (bs [])), (13, .int .i64 0), (14, .int .i64 0)] (by kernel_rfl) ?_
          refine gl_done rfl ?_
          refine sw_next ?_
          refine sw_block ?_
          replace hH : Hp w w32 _ _ [.blk b14 77 [.int .i64 a.dv, .string (bs a.nm), a.vb, .int .i64 a.n, .int .i64 a.m, a.vl], .grp (rdkO xb7 rv20 (D17).off (actsI (D17).ar) part21 L22), .grp (dskO db3 mb4 ab18 D17 es19), .row (.slice A34 qs28.length c35) 89 3 qs28.length (rowC filC qs28), filRs qs28] := hH
          replace hH := hH.pick [2, 1, 3, 4, 0] (by kernel_rfl) (os' := [.grp (dskO db3 mb4 ab18 D17 es19), .grp (rdkO xb7 rv20 (D17).off (actsI (D17).ar) part21 L22), .row (.slice A34 qs28.length c35) 89 3 qs28.length (rowC filC qs28), filRs qs28, .blk b14 77 [.int .i64 a.dv, .string (bs a.nm), a.vb, .int .i64 a.n, .int .i64 a.m, a.vl]]) (by kernel_rfl)
          replace hH := (hH.sublist (.cons_cons _ (.cons_cons _ (.cons_cons _ (.cons_cons _ (List.nil_sublist _))))))
          replace hH : Hp w w32 _ _ [.grp (dskO db3 mb4 ab18 D17 es19), .grp (rdkO xb7 rv20 (D17).off (actsI (D17).ar) part21 L22), .row (.slice A34 qs28.length c35) 89 3 qs28.length (rowC filC qs28), filRs qs28] := hH
          refine sw_loop (γ := Nat × List UInt8 × Nat) (fun (k, nw, nn) => [(0, .string (bs nm)), (1, .slice Aa ac.length ca), (6, .pointer (some ⟨db3, 0, none⟩)), (7, .pointer (some ⟨xb7, 0, none⟩)), (8, .string (bs sv)), (9, .int .i64 ((i : Nat) : Int)), (11, .slice A34 qs28.length c35), (12, .string (bs nw)), (13, .int .i64 ((nn : Nat) : Int)), (14, .int .i64 ((k : Nat) : Int))]) (fun (k, nw, nn) w_ => (k ≤ qs28.length) ∧ ((nw, nn) = scanF (D17.fs.take k) nm) ∧ Hp w w_ (w.cell?) [] [.grp (dskO db3 mb4 ab18 D17 es19), .grp (rdkO xb7 rv20 (D17).off (actsI (D17).ar) part21 L22), .row (.slice A34 qs28.length c35) 89 3 qs28.length (rowC filC qs28), filRs qs28]) (fun (k, nw, nn) => qs28.length - k) (0, [], 0) (Sub.of_eq (by kernel_rfl)) ?_ ?_
          · exact ⟨by omega, rfl, hH⟩
          clear hH
          rintro ⟨k, nw, nn⟩ w38 ⟨hk, hnw, hH⟩
          refine sw_keep [(0, .string (bs nm)), (1, .slice Aa ac.length ca), (6, .pointer (some ⟨db3, 0, none⟩)), (7, .pointer (some ⟨xb7, 0, none⟩)), (8, .string (bs sv)), (9, .int .i64 ((i : Nat) : Int)), (11, .slice A34 qs28.length c35), (12, .string (bs nw)), (13, .int .i64 ((nn : Nat) : Int)), (14, .int .i64 ((k : Nat) : Int))] (by kernel_rfl) ?_
          refine sw_seq ?_
          refine sw_seq ?_
          refine sw_region ?_  -- R17 law.go:120
          refine gl_ops 2 [(0, .string (bs nm)), (1, .slice Aa ac.length ca), (6, .pointer (some ⟨db3, 0, none⟩)), (7, .pointer (some ⟨xb7, 0, none⟩)), (8, .string (bs sv)), (9, .int .i64 ((i : Nat) : Int)), (11, .slice A34 qs28.length c35), (12, .string (bs nw)), (13, .int .i64 ((nn : Nat) : Int)), (14, .int .i64 ((k : Nat) : Int)), (58, .int .i64 ((k : Nat) : Int)), (59, .slice A34 qs28.length c35)] (by kernel_rfl) ?_
          refine gl_q rfl rfl rfl (rd_len (e := 89) (by kernel_rfl) rfl) ?_
          refine gl_ops 1 [(0, .string (bs nm)), (1, .slice Aa ac.length ca), (6, .pointer (some ⟨db3, 0, none⟩)), (7, .pointer (some ⟨xb7, 0, none⟩)), (8, .string (bs sv)), (9, .int .i64 ((i : Nat) : Int)), (11, .slice A34 qs28.length c35), (12, .string (bs nw)), (13, .int .i64 ((nn : Nat) : Int)), (14, .int .i64 ((k : Nat) : Int)), (61, .bool (decide (((k : Nat) : Int) < ((qs28.length : Nat) : Int))))] (by kernel_rfl) ?_
          refine gl_done rfl ?_
          refine sw_next ?_
          refine sw_cond rfl rfl (fun hc7 => ?_) (fun hc7 => ?_)
          ·
            try simp only [decide_eq_true_eq, beq_iff_eq, bne_iff_ne, ne_eq, Bool.not_eq_true', beq_eq_false_iff_ne, bne_eq_false_iff_eq, decide_eq_false_iff_not, Int.not_lt, Int.not_le] at hc7
            refine sw_skip ?_
            refine sw_next ?_
            refine sw_seq ?_
            refine sw_block ?_
            refine sw_seq ?_
            obtain ⟨⟨f, fv⟩, hq⟩ : ∃ q, qs28[k]? = some q := ⟨_, List.getElem?_eq_getElem (by omega)⟩
            have hf : D17.fs[k]? = some f := by rw [← hqs29, List.getElem?_map, hq]; rfl
            have hmx : qs28.length ≤ 1000000 := by have h1 := congrArg List.length hqs29; have h2 := hI23.len; simp only [List.length_map] at h1; omega
            obtain ⟨Aq, cq, rfl, hq8, hq9⟩ := (show RB _ fv f.b from rs_rbs hH 3 rfl _ (List.mem_of_getElem? hq)).row.form
            refine sw_region ?_  -- R19 law.go:121
            obtain ⟨b40, hb39, hi41⟩ := hH.row_idx 2 rfl k (by omega)
            refine gl_ops 2 [(0, .string (bs nm)), (1, .slice Aa ac.length ca), (6, .pointer (some ⟨db3, 0, none⟩)), (7, .pointer (some ⟨xb7, 0, none⟩)), (8, .string (bs sv)), (9, .int .i64 ((i : Nat) : Int)), (11, .slice A34 qs28.length c35), (12, .string (bs nw)), (13, .int .i64 ((nn : Nat) : Int)), (14, .int .i64 ((k : Nat) : Int)), (64, .slice A34 qs28.length c35), (65, .int .i64 ((k : Nat) : Int))] (by kernel_rfl) ?_
            refine gl_q rfl rfl rfl (rd_idx (e := 89) (m := 3) (by kernel_rfl) (by kernel_rfl) rfl rfl hi41) ?_
            refine gl_ops 1 [(0, .string (bs nm)), (1, .slice Aa ac.length ca), (6, .pointer (some ⟨db3, 0, none⟩)), (7, .pointer (some ⟨xb7, 0, none⟩)), (8, .string (bs sv)), (9, .int .i64 ((i : Nat) : Int)), (11, .slice A34 qs28.length c35), (12, .string (bs nw)), (13, .int .i64 ((nn : Nat) : Int)), (14, .int .i64 ((k : Nat) : Int)), (67, .pointer (some ⟨b40, k * 3, none⟩))] (by kernel_rfl) ?_
            refine gl_q rfl rfl rfl (rd_loadO 2 (by kernel_rfl) hH rfl rfl hb39 (rowC_at filC_len hq 0 (by decide) rfl)) ?_
            refine gl_ops 1 [(0, .string (bs nm)), (1, .slice Aa ac.length ca), (6, .pointer (some ⟨db3, 0, none⟩)), (7, .pointer (some ⟨xb7, 0, none⟩)), (8, .string (bs sv)), (9, .int .i64 ((i : Nat) : Int)), (11, .slice A34 qs28.length c35), (12, .string (bs nw)), (13, .int .i64 ((nn : Nat) : Int)), (14, .int .i64 ((k : Nat) : Int)), (68, .string (bs f.name)), (69, .string (bs nm))] (by kernel_rfl) ?_
            refine gl_q rfl rfl rfl (rd_seql (by kernel_rfl) rfl rfl) ?_
            refine gl_done rfl ?_
            refine sw_next ?_
            refine sw_cond rfl rfl (fun hc8 => ?_) (fun hc8 => ?_)
            ·
              try simp only [decide_eq_true_eq, beq_iff_eq, bne_iff_ne, ne_eq, Bool.not_eq_true', beq_eq_false_iff_ne, bne_eq_false_iff_eq, decide_eq_false_iff_not, Int.not_lt, Int.not_le] at hc8
              have heq := hc8
              refine sw_seq ?_
              refine sw_region ?_  -- R20 law.go:122
              obtain ⟨b43, hb42, hi44⟩ := hH.row_idx 2 rfl k (by omega)
              refine gl_ops 2 [(0, .string (bs nm)), (1, .slice Aa ac.length ca), (6, .pointer (some ⟨db3, 0, none⟩)), (7, .pointer (some ⟨xb7, 0, none⟩)), (8, .string (bs sv)), (9, .int .i64 ((i : Nat) : Int)), (11, .slice A34 qs28.length c35), (14, .int .i64 ((k : Nat) : Int)), (71, .slice A34 qs28.length c35), (72, .int .i64 ((k : Nat) : Int))] (by kernel_rfl) ?_
              refine gl_q rfl rfl rfl (rd_idx (e := 89) (m := 3) (by kernel_rfl) (by kernel_rfl) rfl rfl hi44) ?_
              refine gl_ops 1 [(0, .string (bs nm)), (1, .slice Aa ac.length ca), (6, .pointer (some ⟨db3, 0, none⟩)), (7, .pointer (some ⟨xb7, 0, none⟩)), (8, .string (bs sv)), (9, .int .i64 ((i : Nat) : Int)), (11, .slice A34 qs28.length c35), (14, .int .i64 ((k : Nat) : Int)), (74, .pointer (some ⟨b43, k * 3 + 1, none⟩))] (by kernel_rfl) ?_
              refine gl_q rfl rfl rfl (rd_loadO 2 (by kernel_rfl) hH rfl rfl hb42 (rowC_at filC_len hq 1 (by decide) rfl)) ?_
              refine gl_q rfl rfl rfl (rd_str (e := 5) (by kernel_rfl) (by kernel_rfl) (by kernel_rfl) rfl (show RB _ _ f.b from rs_rbs hH 3 rfl _ (List.mem_of_getElem? hq))) ?_
              refine gl_ops 1 [(0, .string (bs nm)), (1, .slice Aa ac.length ca), (6, .pointer (some ⟨db3, 0, none⟩)), (7, .pointer (some ⟨xb7, 0, none⟩)), (8, .string (bs sv)), (9, .int .i64 ((i : Nat) : Int)), (11, .slice A34 qs28.length c35), (12, .string (bs f.b)), (14, .int .i64 ((k : Nat) : Int))] (by kernel_rfl) ?_
              refine gl_done rfl ?_
              refine sw_next ?_
              refine sw_region ?_  -- R21 law.go:123
              obtain ⟨b46, hb45, hi47⟩ := hH.row_idx 2 rfl k (by omega)
              refine gl_ops 2 [(0, .string (bs nm)), (1, .slice Aa ac.length ca), (6, .pointer (some ⟨db3, 0, none⟩)), (7, .pointer (some ⟨xb7, 0, none⟩)), (8, .string (bs sv)), (9, .int .i64 ((i : Nat) : Int)), (11, .slice A34 qs28.length c35), (12, .string (bs f.b)), (14, .int .i64 ((k : Nat) : Int)), (77, .slice A34 qs28.length c35), (78, .int .i64 ((k : Nat) : Int))] (by kernel_rfl) ?_
              refine gl_q rfl rfl rfl (rd_idx (e := 89) (m := 3) (by kernel_rfl) (by kernel_rfl) rfl rfl hi47) ?_
              refine gl_ops 1 [(0, .string (bs nm)), (1, .slice Aa ac.length ca), (6, .pointer (some ⟨db3, 0, none⟩)), (7, .pointer (some ⟨xb7, 0, none⟩)), (8, .string (bs sv)), (9, .int .i64 ((i : Nat) : Int)), (11, .slice A34 qs28.length c35), (12, .string (bs f.b)), (14, .int .i64 ((k : Nat) : Int)), (80, .pointer (some ⟨b46, k * 3 + 2, none⟩))] (by kernel_rfl) ?_
              refine gl_q rfl rfl rfl (rd_loadO 2 (by kernel_rfl) hH rfl rfl hb45 (rowC_at filC_len hq 2 (by decide) rfl)) ?_
              refine gl_ops 1 [(0, .string (bs nm)), (1, .slice Aa ac.length ca), (6, .pointer (some ⟨db3, 0, none⟩)), (7, .pointer (some ⟨xb7, 0, none⟩)), (8, .string (bs sv)), (9, .int .i64 ((i : Nat) : Int)), (11, .slice A34 qs28.length c35), (12, .string (bs f.b)), (13, .int .i64 ((f.sure : Nat) : Int)), (14, .int .i64 ((k : Nat) : Int))] (by kernel_rfl) ?_
              refine gl_done rfl ?_
              refine bkN ?_
              refine sw_next ?_
              refine sw_region ?_  -- R18 law.go:120
              refine gl_ops 2 [(0, .string (bs nm)), (1, .slice Aa ac.length ca), (6, .pointer (some ⟨db3, 0, none⟩)), (7, .pointer (some ⟨xb7, 0, none⟩)), (8, .string (bs sv)), (9, .int .i64 ((i : Nat) : Int)), (11, .slice A34 qs28.length c35), (12, .string (bs f.b)), (13, .int .i64 ((f.sure : Nat) : Int)), (63, .int .i64 (IntKind.i64.wrap (((k : Nat) : Int) + 1)))] (by kernel_rfl) ?_
              refine gl_cv 63 (.int .i64 ((k + 1 : Nat) : Int)) (cv_i64 (by omega)) rfl ?_
              refine gl_ops 1 [(0, .string (bs nm)), (1, .slice Aa ac.length ca), (6, .pointer (some ⟨db3, 0, none⟩)), (7, .pointer (some ⟨xb7, 0, none⟩)), (8, .string (bs sv)), (9, .int .i64 ((i : Nat) : Int)), (11, .slice A34 qs28.length c35), (12, .string (bs f.b)), (13, .int .i64 ((f.sure : Nat) : Int)), (14, .int .i64 ((k + 1 : Nat) : Int))] (by kernel_rfl) ?_
              refine gl_done rfl ?_
              refine rnd_end (g := (k, nw, nn)) (k + 1, f.b, f.sure) (by kernel_rfl) ?_ ?_
              · exact ⟨by omega, by rw [scanF_next hf, if_pos heq], hH⟩
              · show qs28.length - (k + 1) < qs28.length - k; omega
            try simp only [decide_eq_false_iff_not, beq_eq_false_iff_ne, bne_eq_false_iff_eq, ne_eq, Decidable.not_not, Int.not_lt, Int.not_le, Bool.not_eq_false', beq_iff_eq, bne_iff_ne, decide_eq_true_eq] at hc8
            have hne := hc8
            refine sw_skip ?_
            refine bkN ?_
            refine sw_next ?_
            refine sw_region ?_  -- R18 law.go:120
            refine gl_ops 2 [(0, .string (bs nm)), (1, .slice Aa ac.length ca), (6, .pointer (some ⟨db3, 0, none⟩)), (7, .pointer (some ⟨xb7, 0, none⟩)), (8, .string (bs sv)), (9, .int .i64 ((i : Nat) : Int)), (11, .slice A34 qs28.length c35), (12, .string (bs nw)), (13, .int .i64 ((nn : Nat) : Int)), (63, .int .i64 (IntKind.i64.wrap (((k : Nat) : Int) + 1)))] (by kernel_rfl) ?_
            refine gl_cv 63 (.int .i64 ((k + 1 : Nat) : Int)) (cv_i64 (by omega)) rfl ?_
            refine gl_ops 1 [(0, .string (bs nm)), (1, .slice Aa ac.length ca), (6, .pointer (some ⟨db3, 0, none⟩)), (7, .pointer (some ⟨xb7, 0, none⟩)), (8, .string (bs sv)), (9, .int .i64 ((i : Nat) : Int)), (11, .slice A34 qs28.length c35), (12, .string (bs nw)), (13, .int .i64 ((nn : Nat) : Int)), (14, .int .i64 ((k + 1 : Nat) : Int))] (by kernel_rfl) ?_
            refine gl_done rfl ?_
            refine rnd_end (g := (k, nw, nn)) (k + 1, nw, nn) (by kernel_rfl) ?_ ?_
            · exact ⟨by omega, by rw [scanF_next hf, if_neg hne]; exact hnw, hH⟩
            · show qs28.length - (k + 1) < qs28.length - k; omega
          try simp only [decide_eq_false_iff_not, beq_eq_false_iff_ne, bne_eq_false_iff_eq, ne_eq, Decidable.not_not, Int.not_lt, Int.not_le, Bool.not_eq_false', beq_iff_eq, bne_iff_ne, decide_eq_true_eq] at hc7
          refine sw_exit ?_
          refine thX ?_
          refine thX ?_
          refine bkH ?_
          refine sw_next ?_
          refine sw_seq ?_
          refine sw_seq ?_
          have hkl : D17.fs.length ≤ k := by have h1 := congrArg List.length hqs29; simp only [List.length_map] at h1; omega
          rw [List.take_of_length_le hkl, scanF_all hI23.good.srt] at hnw
          have hnw1 : nw = (oldF D17.fs nm).b := congrArg Prod.fst hnw
          have hnw2 : nn = (oldF D17.fs nm).sure := congrArg Prod.snd hnw
          have hlast : Last (oldF D.fs nm) (oldF D17.fs nm) := by rw [← hD24]; exact last_act hI.good nm hskip
          have hlf := last_facts hlast (oldF_sure hI.good nm) hsv
          rw [← hnw1, ← hnw2] at hlf
          obtain ⟨l1, l2, l3, l4⟩ := hlf
          refine sw_region ?_  -- R22 law.go:126
          refine gl_ops 2 [(0, .string (bs nm)), (1, .slice Aa ac.length ca), (6, .pointer (some ⟨db3, 0, none⟩)), (7, .pointer (some ⟨xb7, 0, none⟩)), (8, .string (bs sv)), (9, .int .i64 ((i : Nat) : Int)), (12, .string (bs nw)), (13, .int .i64 ((nn : Nat) : Int)), (83, .int .i64 (((bs nw).size : Nat) : Int))] (by kernel_rfl) ?_
          refine gl_cv 83 (.int .i64 ((nw.length : Nat) : Int)) (by rw [bs_size]) rfl ?_
          refine gl_ops 2 [(0, .string (bs nm)), (1, .slice Aa ac.length ca), (6, .pointer (some ⟨db3, 0, none⟩)), (7, .pointer (some ⟨xb7, 0, none⟩)), (8, .string (bs sv)), (9, .int .i64 ((i : Nat) : Int)), (12, .string (bs nw)), (13, .int .i64 ((nn : Nat) : Int)), (83, .int .i64 ((nw.length : Nat) : Int)), (85, .int .i64 (((bs sv).size : Nat) : Int))] (by kernel_rfl) ?_
          refine gl_cv 85 (.int .i64 ((sv.length : Nat) : Int)) (by rw [bs_size]) rfl ?_
          refine gl_ops 2 [(0, .string (bs nm)), (1, .slice Aa ac.length ca), (6, .pointer (some ⟨db3, 0, none⟩)), (7, .pointer (some ⟨xb7, 0, none⟩)), (8, .string (bs sv)), (9, .int .i64 ((i : Nat) : Int)), (12, .string (bs nw)), (13, .int .i64 ((nn : Nat) : Int)), (87, .bool (decide (((nw.length : Nat) : Int) < ((sv.length : Nat) : Int))))] (by kernel_rfl) ?_
          refine gl_split 87 (b := decide (((nw.length : Nat) : Int) < ((sv.length : Nat) : Int))) rfl (fun hg9 => ?_) (fun hg9 => ?_)
          ·
            try simp only [decide_eq_true_eq, beq_iff_eq, bne_iff_ne, ne_eq, Bool.not_eq_true', beq_eq_false_iff_ne, bne_eq_false_iff_eq, decide_eq_false_iff_not, Int.not_lt, Int.not_le] at hg9
            exfalso; omega
          try simp only [decide_eq_false_iff_not, beq_eq_false_iff_ne, bne_eq_false_iff_eq, ne_eq, Decidable.not_not, Int.not_lt, Int.not_le, Bool.not_eq_false', beq_iff_eq, bne_iff_ne, decide_eq_true_eq] at hg9
          refine gl_ops 3 [(0, .string (bs nm)), (1, .slice Aa ac.length ca), (6, .pointer (some ⟨db3, 0, none⟩)), (7, .pointer (some ⟨xb7, 0, none⟩)), (8, .string (bs sv)), (9, .int .i64 ((i : Nat) : Int)), (12, .string (bs nw)), (13, .int .i64 ((nn : Nat) : Int)), (87, .bool false), (88, .string (bs nw)), (90, .int .i64 (((bs sv).size : Nat) : Int))] (by kernel_rfl) ?_
          refine gl_cv 90 (.int .i64 ((sv.length : Nat) : Int)) (by rw [bs_size]) rfl ?_
          refine gl_q rfl rfl rfl (rd_scut (by kernel_rfl) rfl (.inl ⟨rfl, rfl⟩) (.inr ⟨_, _, rfl, rfl⟩) (by omega) (by omega)) ?_
          refine gl_ops 1 [(0, .string (bs nm)), (1, .slice Aa ac.length ca), (6, .pointer (some ⟨db3, 0, none⟩)), (7, .pointer (some ⟨xb7, 0, none⟩)), (8, .string (bs sv)), (9, .int .i64 ((i : Nat) : Int)), (12, .string (bs nw)), (13, .int .i64 ((nn : Nat) : Int)), (87, .bool false), (91, .string (bs ((nw.drop 0).take (sv.length - 0)))), (92, .string (bs sv))] (by kernel_rfl) ?_
          refine gl_q rfl rfl rfl (rd_sneq (by kernel_rfl) rfl rfl) ?_
          refine gl_cv 93 (.bool false) (by rw [List.drop_zero, Nat.sub_zero, l2]; simp) rfl ?_
          refine gl_ops 5 [(0, .string (bs nm)), (1, .slice Aa ac.length ca), (6, .pointer (some ⟨db3, 0, none⟩)), (7, .pointer (some ⟨xb7, 0, none⟩)), (9, .int .i64 ((i : Nat) : Int)), (12, .string (bs nw)), (13, .int .i64 ((nn : Nat) : Int)), (95, .bool false), (96, .int .i64 ((nn : Nat) : Int)), (98, .int .i64 (((bs sv).size : Nat) : Int))] (by kernel_rfl) ?_
          refine gl_cv 98 (.int .i64 ((sv.length : Nat) : Int)) (by rw [bs_size]) rfl ?_
          refine gl_ops 3 [(0, .string (bs nm)), (1, .slice Aa ac.length ca), (6, .pointer (some ⟨db3, 0, none⟩)), (7, .pointer (some ⟨xb7, 0, none⟩)), (9, .int .i64 ((i : Nat) : Int)), (12, .string (bs nw)), (13, .int .i64 ((nn : Nat) : Int)), (101, .bool (decide (((nn : Nat) : Int) < ((sv.length : Nat) : Int))))] (by kernel_rfl) ?_
          refine gl_split 101 (b := decide (((nn : Nat) : Int) < ((sv.length : Nat) : Int))) rfl (fun hg10 => ?_) (fun hg10 => ?_)
          ·
            try simp only [decide_eq_true_eq, beq_iff_eq, bne_iff_ne, ne_eq, Bool.not_eq_true', beq_eq_false_iff_ne, bne_eq_false_iff_eq, decide_eq_false_iff_not, Int.not_lt, Int.not_le] at hg10
            exfalso; omega
          try simp only [decide_eq_false_iff_not, beq_eq_false_iff_ne, bne_eq_false_iff_eq, ne_eq, Decidable.not_not, Int.not_lt, Int.not_le, Bool.not_eq_false', beq_iff_eq, bne_iff_ne, decide_eq_true_eq] at hg10
          refine gl_ops 3 [(0, .string (bs nm)), (1, .slice Aa ac.length ca), (6, .pointer (some ⟨db3, 0, none⟩)), (7, .pointer (some ⟨xb7, 0, none⟩)), (9, .int .i64 ((i : Nat) : Int)), (12, .string (bs nw)), (13, .int .i64 ((nn : Nat) : Int)), (101, .bool false), (102, .int .i64 ((nn : Nat) : Int)), (104, .int .i64 (((bs nw).size : Nat) : Int))] (by kernel_rfl) ?_
          refine gl_cv 104 (.int .i64 ((nw.length : Nat) : Int)) (by rw [bs_size]) rfl ?_
          refine gl_ops 2 [(0, .string (bs nm)), (1, .slice Aa ac.length ca), (6, .pointer (some ⟨db3, 0, none⟩)), (7, .pointer (some ⟨xb7, 0, none⟩)), (9, .int .i64 ((i : Nat) : Int)), (12, .string (bs nw)), (13, .int .i64 ((nn : Nat) : Int)), (106, .bool (decide (((nn : Nat) : Int) > ((nw.length : Nat) : Int))))] (by kernel_rfl) ?_
          refine gl_done rfl ?_
          refine sw_next ?_
          refine sw_cond rfl rfl (fun hc11 => ?_) (fun hc11 => ?_)
          · exact absurd hc11 (by simp only [decide_eq_true_eq, beq_iff_eq, bne_iff_ne, ne_eq]; omega)
          clear hc11
          refine sw_skip ?_
          refine sw_next ?_
          refine sw_region ?_  -- R24 law.go:129
          refine gl_ops 2 [(0, .string (bs nm)), (1, .slice Aa ac.length ca), (6, .pointer (some ⟨db3, 0, none⟩)), (7, .pointer (some ⟨xb7, 0, none⟩)), (9, .int .i64 ((i : Nat) : Int)), (107, .string (bs nw)), (108, .int .i64 ((nn : Nat) : Int))] (by kernel_rfl) ?_
          refine gl_q rfl rfl rfl (rd_scut (by kernel_rfl) rfl (.inl ⟨rfl, rfl⟩) (.inr ⟨_, _, rfl, rfl⟩) (by omega) (by omega)) ?_
          refine gl_cv 109 (.string (bs (nw.take nn))) (by rw [List.drop_zero, Nat.sub_zero]) rfl ?_
          refine gl_ops 1 [(0, .string (bs nm)), (1, .slice Aa ac.length ca), (6, .pointer (some ⟨db3, 0, none⟩)), (7, .pointer (some ⟨xb7, 0, none⟩)), (8, .string (bs (nw.take nn))), (9, .int .i64 ((i : Nat) : Int))] (by kernel_rfl) ?_
          refine gl_done rfl ?_
          refine bkN ?_
          refine sw_next ?_
          refine sw_region ?_  -- R9 law.go:111
          refine gl_ops 2 [(0, .string (bs nm)), (1, .slice Aa ac.length ca), (6, .pointer (some ⟨db3, 0, none⟩)), (7, .pointer (some ⟨xb7, 0, none⟩)), (8, .string (bs (nw.take nn))), (33, .int .i64 (IntKind.i64.wrap (((i : Nat) : Int) + 1)))] (by kernel_rfl) ?_
          refine gl_cv 33 (.int .i64 ((i + 1 : Nat) : Int)) (cv_i64 (by omega)) rfl ?_
          refine gl_ops 1 [(0, .string (bs nm)), (1, .slice Aa ac.length ca), (6, .pointer (some ⟨db3, 0, none⟩)), (7, .pointer (some ⟨xb7, 0, none⟩)), (8, .string (bs (nw.take nn))), (9, .int .i64 ((i + 1 : Nat) : Int))] (by kernel_rfl) ?_
          refine gl_done rfl ?_
          refine rnd_end (g := (i, D, es, ab, rv, part, L, sv)) (i + 1, D17, es19, ab18, rv20, part21, L22, nw.take nn) (by kernel_rfl) ?_ ?_
          replace hH := (hH.sublist (.cons_cons _ (.cons_cons _ (List.nil_sublist _))))
          replace hH : Hp w w38 _ _ [.grp (dskO db3 mb4 ab18 D17 es19), .grp (rdkO xb7 rv20 (D17).off (actsI (D17).ar) part21 L22)] := hH
          · exact ⟨by omega, by omega, hI23, by rw [hnw1, hnw2], hH⟩
          · show ac.length - (i + 1) < ac.length - i; omega
        try simp only [decide_eq_false_iff_not, beq_eq_false_iff_ne, bne_eq_false_iff_eq, ne_eq, Decidable.not_not, Int.not_lt, Int.not_le, Bool.not_eq_false', beq_iff_eq, bne_iff_ne, decide_eq_true_eq] at hg5
        have hskip : ¬ (a.nm = nm ∧ 2 ≤ a.dv ∧ a.dv ≤ 4) := by intro h9; omega
        refine gl_ops 4 [(0, .string (bs nm)), (1, .slice Aa ac.length ca), (6, .pointer (some ⟨db3, 0, none⟩)), (7, .pointer (some ⟨xb7, 0, none⟩)), (8, .string (bs sv)), (9, .int .i64 ((i : Nat) : Int)), (10, .pointer (some ⟨b14, 0, none⟩)), (51, .bool false)] (by kernel_rfl) ?_
        refine gl_done rfl ?_
        refine sw_next ?_
        refine sw_false rfl rfl ?_
        refine sw_skip ?_
        refine sw_next ?_
        refine sw_seq ?_
        refine sw_region ?_  -- R12 law.go:116
        refine gl_ops 2 [(0, .string (bs nm)), (1, .slice Aa ac.length ca), (6, .pointer (some ⟨db3, 0, none⟩)), (7, .pointer (some ⟨xb7, 0, none⟩)), (8, .string (bs sv)), (9, .int .i64 ((i : Nat) : Int)), (10, .pointer (some ⟨b14, 0, none⟩)), (52, .pointer (some ⟨db3, 0, none⟩)), (53, .pointer (some ⟨xb7, 0, none⟩))] (by kernel_rfl) ?_
        refine gl_q rfl rfl rfl (rd_loadKA (m := 6) 2 (by kernel_rfl) hH rfl rfl (by kernel_rfl) [.int .i64 a.dv, .string (bs a.nm), a.vb, .int .i64 a.n, .int .i64 a.m, a.vl] rfl rfl) ?_
        obtain ⟨D48, hD55⟩ : ∃ D2, actD D a.dv a.nm a.b a.n a.m a.ks = D2 := ⟨_, rfl⟩
        replace hH : Hp w w16 _ _ ([.grp (dskO db3 mb4 ab D es), .grp (rdkO xb7 rv (D).off (actsI (D).ar) part L)] ++ [.blk b14 77 [.int .i64 a.dv, .string (bs a.nm), a.vb, .int .i64 a.n, .int .i64 a.m, a.vl]]) := hH
        refine gl_st (st_call rfl rfl rfl (by kernel_rfl) rfl (by have h9 := Act_ct db3 mb4 ab xb7 rv D es L part (sumB (ac.take i)) i a.dv a.nm a.b a.n a.m a.ks a.vb a.vl _ hH.mine hI (hka1.mono hH.zoff) (hka2.mono hH.zoff) (hH.zoff _ _ hG) (by omega) (by omega) (by omega) (by omega) (by omega) hka3; rw [hD55] at h9; exact h9) ?_)
        rintro _ w56 ⟨ab49, es50, rv51, part52, L53, rfl, hI54, hF57⟩
        replace hH := hH.turns hF57; clear hF57
        replace hH : Hp w w56 _ _ [.blk b14 77 [.int .i64 a.dv, .string (bs a.nm), a.vb, .int .i64 a.n, .int .i64 a.m, a.vl], .grp (dskO db3 mb4 ab49 D48 es50), .grp (rdkO xb7 rv51 (D48).off (actsI (D48).ar) part52 L53)] := hH
        rw [← hs1] at hI54
        refine gl_done rfl ?_
        refine sw_next ?_
        refine sw_seq ?_
        refine sw_region ?_  -- R13 law.go:117
        refine gl_ops 1 [(0, .string (bs nm)), (1, .slice Aa ac.length ca), (6, .pointer (some ⟨db3, 0, none⟩)), (7, .pointer (some ⟨xb7, 0, none⟩)), (8, .string (bs sv)), (9, .int .i64 ((i : Nat) : Int)), (56, .pointer (some ⟨db3, 0, none⟩))] (by kernel_rfl) ?_
        replace hH : Hp w w56 _ _ [.blk b14 77 [.int .i64 a.dv, .string (bs a.nm), a.vb, .int .i64 a.n, .int .i64 a.m, a.vl], .grp (dskO db3 mb4 ab49 D48 es50), .grp (rdkO xb7 rv51 (D48).off (actsI (D48).ar) part52 L53)] := hH
        replace hH := hH.pick [1, 0, 2] (by kernel_rfl) (os' := [.grp (dskO db3 mb4 ab49 D48 es50), .blk b14 77 [.int .i64 a.dv, .string (bs a.nm), a.vb, .int .i64 a.n, .int .i64 a.m, a.vl], .grp (rdkO xb7 rv51 (D48).off (actsI (D48).ar) part52 L53)]) (by kernel_rfl)
        replace hH : Hp w w56 _ _ ([.grp (dskO db3 mb4 ab49 D48 es50)] ++ [.blk b14 77 [.int .i64 a.dv, .string (bs a.nm), a.vb, .int .i64 a.n, .int .i64 a.m, a.vl], .grp (rdkO xb7 rv51 (D48).off (actsI (D48).ar) part52 L53)]) := hH
        refine gl_st (st_call rfl rfl rfl (by kernel_rfl) rfl (Files_ct db3 mb4 ab49 D48 es50 _ _ hH.mine hI54.rep hI54.good (by omega) (by have := hI54.len; omega)) ?_)
        rintro _ w63 ⟨v58, qs59, rfl, hqs60, hF64⟩
        replace hH := hH.turns hF64; clear hF64
        replace hH : Hp w w63 _ _ [.blk b14 77 [.int .i64 a.dv, .string (bs a.nm), a.vb, .int .i64 a.n, .int .i64 a.m, a.vl], .grp (rdkO xb7 rv51 (D48).off (actsI (D48).ar) part52 L53), .grp (dskO db3 mb4 ab49 D48 es50), .row _ 89 3 qs59.length (rowC filC qs59), filRs qs59] := hH
        obtain ⟨A65, c66, rfl, hl67, hm68⟩ := hH.row_form 3 rfl
        refine gl_ops 1 [(0, .string (bs nm)), (1, .slice Aa ac.length ca), (6, .pointer (some ⟨db3, 0, none⟩)), (7, .pointer (some ⟨xb7, 0, none⟩)), (8, .string (bs sv)), (9, .int .i64 ((i : Nat) : Int)), (11, .slice A65 qs59.length c66)] (by kernel_rfl) ?_
        refine gl_done rfl ?_
        refine sw_next ?_
        refine sw_seq ?_
        refine sw_region ?_  -- R14 law.go:118
        refine gl_ops 1 [(0, .string (bs nm)), (1, .slice Aa ac.length ca), (6, .pointer (some ⟨db3, 0, none⟩)), (7, .pointer (some ⟨xb7, 0, none⟩)), (8, .string (bs sv)), (9, .int .i64 ((i : Nat) : Int)), (11, .slice A65 qs59.length c66), (12, .string (bs []))] (by kernel_rfl) ?_
        refine gl_done rfl ?_
        refine sw_next ?_
        refine sw_seq ?_
        refine sw_region ?_  -- R15 law.go:119
        refine gl_ops 1 [(0, .string (bs nm)), (1, .slice Aa ac.length ca), (6, .pointer (some ⟨db3, 0, none⟩)), (7, .pointer (some ⟨xb7, 0, none⟩)), (8, .string (bs sv)), (9, .int .i64 ((i : Nat) : Int)), (11, .slice A65 qs59.length c66), (12, .string (bs [])), (13, .int .i64 0)] (by kernel_rfl) ?_
        refine gl_done rfl ?_
        refine sw_next ?_
        refine sw_seq ?_
        refine sw_seq ?_
        refine sw_region ?_  -- R16 law.go:120
        refine gl_ops 1 [(0, .string (bs nm)), (1, .slice Aa ac.length ca), (6, .pointer (some ⟨db3, 0, none⟩)), (7, .pointer (some ⟨xb7, 0, none⟩)), (8, .string (bs sv)), (9, .int .i64 ((i : Nat) : Int)), (11, .slice A65 qs59.length c66), (12, .string (bs [])), (13, .int .i64 0), (14, .int .i64 0)] (by kernel_rfl) ?_
        refine gl_done rfl ?_
        refine sw_next ?_
        refine sw_block ?_
        replace hH : Hp w w63 _ _ [.blk b14 77 [.int .i64 a.dv, .string (bs a.nm), a.vb, .int .i64 a.n, .int .i64 a.m, a.vl], .grp (rdkO xb7 rv51 (D48).off (actsI (D48).ar) part52 L53), .grp (dskO db3 mb4 ab49 D48 es50), .row (.slice A65 qs59.length c66) 89 3 qs59.length (rowC filC qs59), filRs qs59] := hH
        replace hH := hH.pick [2, 1, 3, 4, 0] (by kernel_rfl) (os' := [.grp (dskO db3 mb4 ab49 D48 es50), .grp (rdkO xb7 rv51 (D48).off (actsI (D48).ar) part52 L53), .row (.slice A65 qs59.length c66) 89 3 qs59.length (rowC filC qs59), filRs qs59, .blk b14 77 [.int .i64 a.dv, .string (bs a.nm), a.vb, .int .i64 a.n, .int .i64 a.m, a.vl]]) (by kernel_rfl)
        replace hH := (hH.sublist (.cons_cons _ (.cons_cons _ (.cons_cons _ (.cons_cons _ (List.nil_sublist _))))))
        replace hH : Hp w w63 _ _ [.grp (dskO db3 mb4 ab49 D48 es50), .grp (rdkO xb7 rv51 (D48).off (actsI (D48).ar) part52 L53), .row (.slice A65 qs59.length c66) 89 3 qs59.length (rowC filC qs59), filRs qs59] := hH
        refine sw_loop (γ := Nat × List UInt8 × Nat) (fun (k, nw, nn) => [(0, .string (bs nm)), (1, .slice Aa ac.length ca), (6, .pointer (some ⟨db3, 0, none⟩)), (7, .pointer (some ⟨xb7, 0, none⟩)), (8, .string (bs sv)), (9, .int .i64 ((i : Nat) : Int)), (11, .slice A65 qs59.length c66), (12, .string (bs nw)), (13, .int .i64 ((nn : Nat) : Int)), (14, .int .i64 ((k : Nat) : Int))]) (fun (k, nw, nn) w_ => (k ≤ qs59.length) ∧ ((nw, nn) = scanF (D48.fs.take k) nm) ∧ Hp w w_ (w.cell?) [] [.grp (dskO db3 mb4 ab49 D48 es50), .grp (rdkO xb7 rv51 (D48).off (actsI (D48).ar) part52 L53), .row (.slice A65 qs59.length c66) 89 3 qs59.length (rowC filC qs59), filRs qs59]) (fun (k, nw, nn) => qs59.length - k) (0, [], 0) (Sub.of_eq (by kernel_rfl)) ?_ ?_
        · exact ⟨by omega, rfl, hH⟩
        clear hH
        rintro ⟨k, nw, nn⟩ w69 ⟨hk, hnw, hH⟩
        refine sw_keep [(0, .string (bs nm)), (1, .slice Aa ac.length ca), (6, .pointer (some ⟨db3, 0, none⟩)), (7, .pointer (some ⟨xb7, 0, none⟩)), (8, .string (bs sv)), (9, .int .i64 ((i : Nat) : Int)), (11, .slice A65 qs59.length c66), (12, .string (bs nw)), (13, .int .i64 ((nn : Nat) : Int)), (14, .int .i64 ((k : Nat) : Int))] (by kernel_rfl) ?_
        refine sw_seq ?_
        refine sw_seq ?_
        refine sw_region ?_  -- R17 law.go:120
        refine gl_ops 2 [(0, .string (bs nm)), (1, .slice Aa ac.length ca), (6, .pointer (some ⟨db3, 0, none⟩)), (7, .pointer (some ⟨xb7, 0, none⟩)), (8, .string (bs sv)), (9, .int .i64 ((i : Nat) : Int)), (11, .slice A65 qs59.length c66), (12, .string (bs nw)), (13, .int .i64 ((nn : Nat) : Int)), (14, .int .i64 ((k : Nat) : Int)), (58, .int .i64 ((k : Nat) : Int)), (59, .slice A65 qs59.length c66)] (by kernel_rfl) ?_
        refine gl_q rfl rfl rfl (rd_len (e := 89) (by kernel_rfl) rfl) ?_
        refine gl_ops 1 [(0, .string (bs nm)), (1, .slice Aa ac.length ca), (6, .pointer (some ⟨db3, 0, none⟩)), (7, .pointer (some ⟨xb7, 0, none⟩)), (8, .string (bs sv)), (9, .int .i64 ((i : Nat) : Int)), (11, .slice A65 qs59.length c66), (12, .string (bs nw)), (13, .int .i64 ((nn : Nat) : Int)), (14, .int .i64 ((k : Nat) : Int)), (61, .bool (decide (((k : Nat) : Int) < ((qs59.length : Nat) : Int))))] (by kernel_rfl) ?_
        refine gl_done rfl ?_
        refine sw_next ?_
        refine sw_cond rfl rfl (fun hc13 => ?_) (fun hc13 => ?_)
        ·
          try simp only [decide_eq_true_eq, beq_iff_eq, bne_iff_ne, ne_eq, Bool.not_eq_true', beq_eq_false_iff_ne, bne_eq_false_iff_eq, decide_eq_false_iff_not, Int.not_lt, Int.not_le] at hc13
          refine sw_skip ?_
          refine sw_next ?_
          refine sw_seq ?_
          refine sw_block ?_
          refine sw_seq ?_
          obtain ⟨⟨f, fv⟩, hq⟩ : ∃ q, qs59[k]? = some q := ⟨_, List.getElem?_eq_getElem (by omega)⟩
          have hf : D48.fs[k]? = some f := by rw [← hqs60, List.getElem?_map, hq]; rfl
          have hmx : qs59.length ≤ 1000000 := by have h1 := congrArg List.length hqs60; have h2 := hI54.len; simp only [List.length_map] at h1; omega
          obtain ⟨Aq, cq, rfl, hq8, hq9⟩ := (show RB _ fv f.b from rs_rbs hH 3 rfl _ (List.mem_of_getElem? hq)).row.form
          refine sw_region ?_  -- R19 law.go:121
          obtain ⟨b71, hb70, hi72⟩ := hH.row_idx 2 rfl k (by omega)
          refine gl_ops 2 [(0, .string (bs nm)), (1, .slice Aa ac.length ca), (6, .pointer (some ⟨db3, 0, none⟩)), (7, .pointer (some ⟨xb7, 0, none⟩)), (8, .string (bs sv)), (9, .int .i64 ((i : Nat) : Int)), (11, .slice A65 qs59.length c66), (12, .string (bs nw)), (13, .int .i64 ((nn : Nat) : Int)), (14, .int .i64 ((k : Nat) : Int)), (64, .slice A65 qs59.length c66), (65, .int .i64 ((k : Nat) : Int))] (by kernel_rfl) ?_
          refine gl_q rfl rfl rfl (rd_idx (e := 89) (m := 3) (by kernel_rfl) (by kernel_rfl) rfl rfl hi72) ?_
          refine gl_ops 1 [(0, .string (bs nm)), (1, .slice Aa ac.length ca), (6, .pointer (some ⟨db3, 0, none⟩)), (7, .pointer (some ⟨xb7, 0, none⟩)), (8, .string (bs sv)), (9, .int .i64 ((i : Nat) : Int)), (11, .slice A65 qs59.length c66), (12, .string (bs nw)), (13, .int .i64 ((nn : Nat) : Int)), (14, .int .i64 ((k : Nat) : Int)), (67, .pointer (some ⟨b71, k * 3, none⟩))] (by kernel_rfl) ?_
          refine gl_q rfl rfl rfl (rd_loadO 2 (by kernel_rfl) hH rfl rfl hb70 (rowC_at filC_len hq 0 (by decide) rfl)) ?_
          refine gl_ops 1 [(0, .string (bs nm)), (1, .slice Aa ac.length ca), (6, .pointer (some ⟨db3, 0, none⟩)), (7, .pointer (some ⟨xb7, 0, none⟩)), (8, .string (bs sv)), (9, .int .i64 ((i : Nat) : Int)), (11, .slice A65 qs59.length c66), (12, .string (bs nw)), (13, .int .i64 ((nn : Nat) : Int)), (14, .int .i64 ((k : Nat) : Int)), (68, .string (bs f.name)), (69, .string (bs nm))] (by kernel_rfl) ?_
          refine gl_q rfl rfl rfl (rd_seql (by kernel_rfl) rfl rfl) ?_
          refine gl_done rfl ?_
          refine sw_next ?_
          refine sw_cond rfl rfl (fun hc14 => ?_) (fun hc14 => ?_)
          ·
            try simp only [decide_eq_true_eq, beq_iff_eq, bne_iff_ne, ne_eq, Bool.not_eq_true', beq_eq_false_iff_ne, bne_eq_false_iff_eq, decide_eq_false_iff_not, Int.not_lt, Int.not_le] at hc14
            have heq := hc14
            refine sw_seq ?_
            refine sw_region ?_  -- R20 law.go:122
            obtain ⟨b74, hb73, hi75⟩ := hH.row_idx 2 rfl k (by omega)
            refine gl_ops 2 [(0, .string (bs nm)), (1, .slice Aa ac.length ca), (6, .pointer (some ⟨db3, 0, none⟩)), (7, .pointer (some ⟨xb7, 0, none⟩)), (8, .string (bs sv)), (9, .int .i64 ((i : Nat) : Int)), (11, .slice A65 qs59.length c66), (14, .int .i64 ((k : Nat) : Int)), (71, .slice A65 qs59.length c66), (72, .int .i64 ((k : Nat) : Int))] (by kernel_rfl) ?_
            refine gl_q rfl rfl rfl (rd_idx (e := 89) (m := 3) (by kernel_rfl) (by kernel_rfl) rfl rfl hi75) ?_
            refine gl_ops 1 [(0, .string (bs nm)), (1, .slice Aa ac.length ca), (6, .pointer (some ⟨db3, 0, none⟩)), (7, .pointer (some ⟨xb7, 0, none⟩)), (8, .string (bs sv)), (9, .int .i64 ((i : Nat) : Int)), (11, .slice A65 qs59.length c66), (14, .int .i64 ((k : Nat) : Int)), (74, .pointer (some ⟨b74, k * 3 + 1, none⟩))] (by kernel_rfl) ?_
            refine gl_q rfl rfl rfl (rd_loadO 2 (by kernel_rfl) hH rfl rfl hb73 (rowC_at filC_len hq 1 (by decide) rfl)) ?_
            refine gl_q rfl rfl rfl (rd_str (e := 5) (by kernel_rfl) (by kernel_rfl) (by kernel_rfl) rfl (show RB _ _ f.b from rs_rbs hH 3 rfl _ (List.mem_of_getElem? hq))) ?_
            refine gl_ops 1 [(0, .string (bs nm)), (1, .slice Aa ac.length ca), (6, .pointer (some ⟨db3, 0, none⟩)), (7, .pointer (some ⟨xb7, 0, none⟩)), (8, .string (bs sv)), (9, .int .i64 ((i : Nat) : Int)), (11, .slice A65 qs59.length c66), (12, .string (bs f.b)), (14, .int .i64 ((k : Nat) : Int))] (by kernel_rfl) ?_
            refine gl_done rfl ?_
            refine sw_next ?_
            refine sw_region ?_  -- R21 law.go:123
            obtain ⟨b77, hb76, hi78⟩ := hH.row_idx 2 rfl k (by omega)
            refine gl_ops 2 [(0, .string (bs nm)), (1, .slice Aa ac.length ca), (6, .pointer (some ⟨db3, 0, none⟩)), (7, .pointer (some ⟨xb7, 0, none⟩)), (8, .string (bs sv)), (9, .int .i64 ((i : Nat) : Int)), (11, .slice A65 qs59.length c66), (12, .string (bs f.b)), (14, .int .i64 ((k : Nat) : Int)), (77, .slice A65 qs59.length c66), (78, .int .i64 ((k : Nat) : Int))] (by kernel_rfl) ?_
            refine gl_q rfl rfl rfl (rd_idx (e := 89) (m := 3) (by kernel_rfl) (by kernel_rfl) rfl rfl hi78) ?_
            refine gl_ops 1 [(0, .string (bs nm)), (1, .slice Aa ac.length ca), (6, .pointer (some ⟨db3, 0, none⟩)), (7, .pointer (some ⟨xb7, 0, none⟩)), (8, .string (bs sv)), (9, .int .i64 ((i : Nat) : Int)), (11, .slice A65 qs59.length c66), (12, .string (bs f.b)), (14, .int .i64 ((k : Nat) : Int)), (80, .pointer (some ⟨b77, k * 3 + 2, none⟩))] (by kernel_rfl) ?_
            refine gl_q rfl rfl rfl (rd_loadO 2 (by kernel_rfl) hH rfl rfl hb76 (rowC_at filC_len hq 2 (by decide) rfl)) ?_
            refine gl_ops 1 [(0, .string (bs nm)), (1, .slice Aa ac.length ca), (6, .pointer (some ⟨db3, 0, none⟩)), (7, .pointer (some ⟨xb7, 0, none⟩)), (8, .string (bs sv)), (9, .int .i64 ((i : Nat) : Int)), (11, .slice A65 qs59.length c66), (12, .string (bs f.b)), (13, .int .i64 ((f.sure : Nat) : Int)), (14, .int .i64 ((k : Nat) : Int))] (by kernel_rfl) ?_
            refine gl_done rfl ?_
            refine bkN ?_
            refine sw_next ?_
            refine sw_region ?_  -- R18 law.go:120
            refine gl_ops 2 [(0, .string (bs nm)), (1, .slice Aa ac.length ca), (6, .pointer (some ⟨db3, 0, none⟩)), (7, .pointer (some ⟨xb7, 0, none⟩)), (8, .string (bs sv)), (9, .int .i64 ((i : Nat) : Int)), (11, .slice A65 qs59.length c66), (12, .string (bs f.b)), (13, .int .i64 ((f.sure : Nat) : Int)), (63, .int .i64 (IntKind.i64.wrap (((k : Nat) : Int) + 1)))] (by kernel_rfl) ?_
            refine gl_cv 63 (.int .i64 ((k + 1 : Nat) : Int)) (cv_i64 (by omega)) rfl ?_
            refine gl_ops 1 [(0, .string (bs nm)), (1, .slice Aa ac.length ca), (6, .pointer (some ⟨db3, 0, none⟩)), (7, .pointer (some ⟨xb7, 0, none⟩)), (8, .string (bs sv)), (9, .int .i64 ((i : Nat) : Int)), (11, .slice A65 qs59.length c66), (12, .string (bs f.b)), (13, .int .i64 ((f.sure : Nat) : Int)), (14, .int .i64 ((k + 1 : Nat) : Int))] (by kernel_rfl) ?_
            refine gl_done rfl ?_
            refine rnd_end (g := (k, nw, nn)) (k + 1, f.b, f.sure) (by kernel_rfl) ?_ ?_
            · exact ⟨by omega, by rw [scanF_next hf, if_pos heq], hH⟩
            · show qs59.length - (k + 1) < qs59.length - k; omega
          try simp only [decide_eq_false_iff_not, beq_eq_false_iff_ne, bne_eq_false_iff_eq, ne_eq, Decidable.not_not, Int.not_lt, Int.not_le, Bool.not_eq_false', beq_iff_eq, bne_iff_ne, decide_eq_true_eq] at hc14
          have hne := hc14
          refine sw_skip ?_
          refine bkN ?_
          refine sw_next ?_
          refine sw_region ?_  -- R18 law.go:120
          refine gl_ops 2 [(0, .string (bs nm)), (1, .slice Aa ac.length ca), (6, .pointer (some ⟨db3, 0, none⟩)), (7, .pointer (some ⟨xb7, 0, none⟩)), (8, .string (bs sv)), (9, .int .i64 ((i : Nat) : Int)), (11, .slice A65 qs59.length c66), (12, .string (bs nw)), (13, .int .i64 ((nn : Nat) : Int)), (63, .int .i64 (IntKind.i64.wrap (((k : Nat) : Int) + 1)))] (by kernel_rfl) ?_
          refine gl_cv 63 (.int .i64 ((k + 1 : Nat) : Int)) (cv_i64 (by omega)) rfl ?_
          refine gl_ops 1 [(0, .string (bs nm)), (1, .slice Aa ac.length ca), (6, .pointer (some ⟨db3, 0, none⟩)), (7, .pointer (some ⟨xb7, 0, none⟩)), (8, .string (bs sv)), (9, .int .i64 ((i : Nat) : Int)), (11, .slice A65 qs59.length c66), (12, .string (bs nw)), (13, .int .i64 ((nn : Nat) : Int)), (14, .int .i64 ((k + 1 : Nat) : Int))] (by kernel_rfl) ?_
          refine gl_done rfl ?_
          refine rnd_end (g := (k, nw, nn)) (k + 1, nw, nn) (by kernel_rfl) ?_ ?_
          · exact ⟨by omega, by rw [scanF_next hf, if_neg hne]; exact hnw, hH⟩
          · show qs59.length - (k + 1) < qs59.length - k; omega
        try simp only [decide_eq_false_iff_not, beq_eq_false_iff_ne, bne_eq_false_iff_eq, ne_eq, Decidable.not_not, Int.not_lt, Int.not_le, Bool.not_eq_false', beq_iff_eq, bne_iff_ne, decide_eq_true_eq] at hc13
        refine sw_exit ?_
        refine thX ?_
        refine thX ?_
        refine bkH ?_
        refine sw_next ?_
        refine sw_seq ?_
        refine sw_seq ?_
        have hkl : D48.fs.length ≤ k := by have h1 := congrArg List.length hqs60; simp only [List.length_map] at h1; omega
        rw [List.take_of_length_le hkl, scanF_all hI54.good.srt] at hnw
        have hnw1 : nw = (oldF D48.fs nm).b := congrArg Prod.fst hnw
        have hnw2 : nn = (oldF D48.fs nm).sure := congrArg Prod.snd hnw
        have hlast : Last (oldF D.fs nm) (oldF D48.fs nm) := by rw [← hD55]; exact last_act hI.good nm hskip
        have hlf := last_facts hlast (oldF_sure hI.good nm) hsv
        rw [← hnw1, ← hnw2] at hlf
        obtain ⟨l1, l2, l3, l4⟩ := hlf
        refine sw_region ?_  -- R22 law.go:126
        refine gl_ops 2 [(0, .string (bs nm)), (1, .slice Aa ac.length ca), (6, .pointer (some ⟨db3, 0, none⟩)), (7, .pointer (some ⟨xb7, 0, none⟩)), (8, .string (bs sv)), (9, .int .i64 ((i : Nat) : Int)), (12, .string (bs nw)), (13, .int .i64 ((nn : Nat) : Int)), (83, .int .i64 (((bs nw).size : Nat) : Int))] (by kernel_rfl) ?_
        refine gl_cv 83 (.int .i64 ((nw.length : Nat) : Int)) (by rw [bs_size]) rfl ?_
        refine gl_ops 2 [(0, .string (bs nm)), (1, .slice Aa ac.length ca), (6, .pointer (some ⟨db3, 0, none⟩)), (7, .pointer (some ⟨xb7, 0, none⟩)), (8, .string (bs sv)), (9, .int .i64 ((i : Nat) : Int)), (12, .string (bs nw)), (13, .int .i64 ((nn : Nat) : Int)), (83, .int .i64 ((nw.length : Nat) : Int)), (85, .int .i64 (((bs sv).size : Nat) : Int))] (by kernel_rfl) ?_
        refine gl_cv 85 (.int .i64 ((sv.length : Nat) : Int)) (by rw [bs_size]) rfl ?_
        refine gl_ops 2 [(0, .string (bs nm)), (1, .slice Aa ac.length ca), (6, .pointer (some ⟨db3, 0, none⟩)), (7, .pointer (some ⟨xb7, 0, none⟩)), (8, .string (bs sv)), (9, .int .i64 ((i : Nat) : Int)), (12, .string (bs nw)), (13, .int .i64 ((nn : Nat) : Int)), (87, .bool (decide (((nw.length : Nat) : Int) < ((sv.length : Nat) : Int))))] (by kernel_rfl) ?_
        refine gl_split 87 (b := decide (((nw.length : Nat) : Int) < ((sv.length : Nat) : Int))) rfl (fun hg15 => ?_) (fun hg15 => ?_)
        ·
          try simp only [decide_eq_true_eq, beq_iff_eq, bne_iff_ne, ne_eq, Bool.not_eq_true', beq_eq_false_iff_ne, bne_eq_false_iff_eq, decide_eq_false_iff_not, Int.not_lt, Int.not_le] at hg15
          exfalso; omega
        try simp only [decide_eq_false_iff_not, beq_eq_false_iff_ne, bne_eq_false_iff_eq, ne_eq, Decidable.not_not, Int.not_lt, Int.not_le, Bool.not_eq_false', beq_iff_eq, bne_iff_ne, decide_eq_true_eq] at hg15
        refine gl_ops 3 [(0, .string (bs nm)), (1, .slice Aa ac.length ca), (6, .pointer (some ⟨db3, 0, none⟩)), (7, .pointer (some ⟨xb7, 0, none⟩)), (8, .string (bs sv)), (9, .int .i64 ((i : Nat) : Int)), (12, .string (bs nw)), (13, .int .i64 ((nn : Nat) : Int)), (87, .bool false), (88, .string (bs nw)), (90, .int .i64 (((bs sv).size : Nat) : Int))] (by kernel_rfl) ?_
        refine gl_cv 90 (.int .i64 ((sv.length : Nat) : Int)) (by rw [bs_size]) rfl ?_
        refine gl_q rfl rfl rfl (rd_scut (by kernel_rfl) rfl (.inl ⟨rfl, rfl⟩) (.inr ⟨_, _, rfl, rfl⟩) (by omega) (by omega)) ?_
        refine gl_ops 1 [(0, .string (bs nm)), (1, .slice Aa ac.length ca), (6, .pointer (some ⟨db3, 0, none⟩)), (7, .pointer (some ⟨xb7, 0, none⟩)), (8, .string (bs sv)), (9, .int .i64 ((i : Nat) : Int)), (12, .string (bs nw)), (13, .int .i64 ((nn : Nat) : Int)), (87, .bool false), (91, .string (bs ((nw.drop 0).take (sv.length - 0)))), (92, .string (bs sv))] (by kernel_rfl) ?_
        refine gl_q rfl rfl rfl (rd_sneq (by kernel_rfl) rfl rfl) ?_
        refine gl_cv 93 (.bool false) (by rw [List.drop_zero, Nat.sub_zero, l2]; simp) rfl ?_
        refine gl_ops 5 [(0, .string (bs nm)), (1, .slice Aa ac.length ca), (6, .pointer (some ⟨db3, 0, none⟩)), (7, .pointer (some ⟨xb7, 0, none⟩)), (9, .int .i64 ((i : Nat) : Int)), (12, .string (bs nw)), (13, .int .i64 ((nn : Nat) : Int)), (95, .bool false), (96, .int .i64 ((nn : Nat) : Int)), (98, .int .i64 (((bs sv).size : Nat) : Int))] (by kernel_rfl) ?_
        refine gl_cv 98 (.int .i64 ((sv.length : Nat) : Int)) (by rw [bs_size]) rfl ?_
        refine gl_ops 3 [(0, .string (bs nm)), (1, .slice Aa ac.length ca), (6, .pointer (some ⟨db3, 0, none⟩)), (7, .pointer (some ⟨xb7, 0, none⟩)), (9, .int .i64 ((i : Nat) : Int)), (12, .string (bs nw)), (13, .int .i64 ((nn : Nat) : Int)), (101, .bool (decide (((nn : Nat) : Int) < ((sv.length : Nat) : Int))))] (by kernel_rfl) ?_
        refine gl_split 101 (b := decide (((nn : Nat) : Int) < ((sv.length : Nat) : Int))) rfl (fun hg16 => ?_) (fun hg16 => ?_)
        ·
          try simp only [decide_eq_true_eq, beq_iff_eq, bne_iff_ne, ne_eq, Bool.not_eq_true', beq_eq_false_iff_ne, bne_eq_false_iff_eq, decide_eq_false_iff_not, Int.not_lt, Int.not_le] at hg16
          exfalso; omega
        try simp only [decide_eq_false_iff_not, beq_eq_false_iff_ne, bne_eq_false_iff_eq, ne_eq, Decidable.not_not, Int.not_lt, Int.not_le, Bool.not_eq_false', beq_iff_eq, bne_iff_ne, decide_eq_true_eq] at hg16
        refine gl_ops 3 [(0, .string (bs nm)), (1, .slice Aa ac.length ca), (6, .pointer (some ⟨db3, 0, none⟩)), (7, .pointer (some ⟨xb7, 0, none⟩)), (9, .int .i64 ((i : Nat) : Int)), (12, .string (bs nw)), (13, .int .i64 ((nn : Nat) : Int)), (101, .bool false), (102, .int .i64 ((nn : Nat) : Int)), (104, .int .i64 (((bs nw).size : Nat) : Int))] (by kernel_rfl) ?_
        refine gl_cv 104 (.int .i64 ((nw.length : Nat) : Int)) (by rw [bs_size]) rfl ?_
        refine gl_ops 2 [(0, .string (bs nm)), (1, .slice Aa ac.length ca), (6, .pointer (some ⟨db3, 0, none⟩)), (7, .pointer (some ⟨xb7, 0, none⟩)), (9, .int .i64 ((i : Nat) : Int)), (12, .string (bs nw)), (13, .int .i64 ((nn : Nat) : Int)), (106, .bool (decide (((nn : Nat) : Int) > ((nw.length : Nat) : Int))))] (by kernel_rfl) ?_
        refine gl_done rfl ?_
        refine sw_next ?_
        refine sw_cond rfl rfl (fun hc17 => ?_) (fun hc17 => ?_)
        · exact absurd hc17 (by simp only [decide_eq_true_eq, beq_iff_eq, bne_iff_ne, ne_eq]; omega)
        clear hc17
        refine sw_skip ?_
        refine sw_next ?_
        refine sw_region ?_  -- R24 law.go:129
        refine gl_ops 2 [(0, .string (bs nm)), (1, .slice Aa ac.length ca), (6, .pointer (some ⟨db3, 0, none⟩)), (7, .pointer (some ⟨xb7, 0, none⟩)), (9, .int .i64 ((i : Nat) : Int)), (107, .string (bs nw)), (108, .int .i64 ((nn : Nat) : Int))] (by kernel_rfl) ?_
        refine gl_q rfl rfl rfl (rd_scut (by kernel_rfl) rfl (.inl ⟨rfl, rfl⟩) (.inr ⟨_, _, rfl, rfl⟩) (by omega) (by omega)) ?_
        refine gl_cv 109 (.string (bs (nw.take nn))) (by rw [List.drop_zero, Nat.sub_zero]) rfl ?_
        refine gl_ops 1 [(0, .string (bs nm)), (1, .slice Aa ac.length ca), (6, .pointer (some ⟨db3, 0, none⟩)), (7, .pointer (some ⟨xb7, 0, none⟩)), (8, .string (bs (nw.take nn))), (9, .int .i64 ((i : Nat) : Int))] (by kernel_rfl) ?_
        refine gl_done rfl ?_
        refine bkN ?_
        refine sw_next ?_
        refine sw_region ?_  -- R9 law.go:111
        refine gl_ops 2 [(0, .string (bs nm)), (1, .slice Aa ac.length ca), (6, .pointer (some ⟨db3, 0, none⟩)), (7, .pointer (some ⟨xb7, 0, none⟩)), (8, .string (bs (nw.take nn))), (33, .int .i64 (IntKind.i64.wrap (((i : Nat) : Int) + 1)))] (by kernel_rfl) ?_
        refine gl_cv 33 (.int .i64 ((i + 1 : Nat) : Int)) (cv_i64 (by omega)) rfl ?_
        refine gl_ops 1 [(0, .string (bs nm)), (1, .slice Aa ac.length ca), (6, .pointer (some ⟨db3, 0, none⟩)), (7, .pointer (some ⟨xb7, 0, none⟩)), (8, .string (bs (nw.take nn))), (9, .int .i64 ((i + 1 : Nat) : Int))] (by kernel_rfl) ?_
        refine gl_done rfl ?_
        refine rnd_end (g := (i, D, es, ab, rv, part, L, sv)) (i + 1, D48, es50, ab49, rv51, part52, L53, nw.take nn) (by kernel_rfl) ?_ ?_
        replace hH := (hH.sublist (.cons_cons _ (.cons_cons _ (List.nil_sublist _))))
        replace hH : Hp w w69 _ _ [.grp (dskO db3 mb4 ab49 D48 es50), .grp (rdkO xb7 rv51 (D48).off (actsI (D48).ar) part52 L53)] := hH
        · exact ⟨by omega, by omega, hI54, by rw [hnw1, hnw2], hH⟩
        · show ac.length - (i + 1) < ac.length - i; omega
      try simp only [decide_eq_false_iff_not, beq_eq_false_iff_ne, bne_eq_false_iff_eq, ne_eq, Decidable.not_not, Int.not_lt, Int.not_le, Bool.not_eq_false', beq_iff_eq, bne_iff_ne, decide_eq_true_eq] at hg4
      have hskip : ¬ (a.nm = nm ∧ 2 ≤ a.dv ∧ a.dv ≤ 4) := fun h9 => hg4 h9.1
      refine gl_ops 9 [(0, .string (bs nm)), (1, .slice Aa ac.length ca), (6, .pointer (some ⟨db3, 0, none⟩)), (7, .pointer (some ⟨xb7, 0, none⟩)), (8, .string (bs sv)), (9, .int .i64 ((i : Nat) : Int)), (10, .pointer (some ⟨b14, 0, none⟩)), (51, .bool false)] (by kernel_rfl) ?_
      refine gl_done rfl ?_
      refine sw_next ?_
      refine sw_false rfl rfl ?_
      refine sw_skip ?_
      refine sw_next ?_
      refine sw_seq ?_
      refine sw_region ?_  -- R12 law.go:116
      refine gl_ops 2 [(0, .string (bs nm)), (1, .slice Aa ac.length ca), (6, .pointer (some ⟨db3, 0, none⟩)), (7, .pointer (some ⟨xb7, 0, none⟩)), (8, .string (bs sv)), (9, .int .i64 ((i : Nat) : Int)), (10, .pointer (some ⟨b14, 0, none⟩)), (52, .pointer (some ⟨db3, 0, none⟩)), (53, .pointer (some ⟨xb7, 0, none⟩))] (by kernel_rfl) ?_
      refine gl_q rfl rfl rfl (rd_loadKA (m := 6) 2 (by kernel_rfl) hH rfl rfl (by kernel_rfl) [.int .i64 a.dv, .string (bs a.nm), a.vb, .int .i64 a.n, .int .i64 a.m, a.vl] rfl rfl) ?_
      obtain ⟨D79, hD86⟩ : ∃ D2, actD D a.dv a.nm a.b a.n a.m a.ks = D2 := ⟨_, rfl⟩
      replace hH : Hp w w16 _ _ ([.grp (dskO db3 mb4 ab D es), .grp (rdkO xb7 rv (D).off (actsI (D).ar) part L)] ++ [.blk b14 77 [.int .i64 a.dv, .string (bs a.nm), a.vb, .int .i64 a.n, .int .i64 a.m, a.vl]]) := hH
      refine gl_st (st_call rfl rfl rfl (by kernel_rfl) rfl (by have h9 := Act_ct db3 mb4 ab xb7 rv D es L part (sumB (ac.take i)) i a.dv a.nm a.b a.n a.m a.ks a.vb a.vl _ hH.mine hI (hka1.mono hH.zoff) (hka2.mono hH.zoff) (hH.zoff _ _ hG) (by omega) (by omega) (by omega) (by omega) (by omega) hka3; rw [hD86] at h9; exact h9) ?_)
      rintro _ w87 ⟨ab80, es81, rv82, part83, L84, rfl, hI85, hF88⟩
      replace hH := hH.turns hF88; clear hF88
      replace hH : Hp w w87 _ _ [.blk b14 77 [.int .i64 a.dv, .string (bs a.nm), a.vb, .int .i64 a.n, .int .i64 a.m, a.vl], .grp (dskO db3 mb4 ab80 D79 es81), .grp (rdkO xb7 rv82 (D79).off (actsI (D79).ar) part83 L84)] := hH
      rw [← hs1] at hI85
      refine gl_done rfl ?_
      refine sw_next ?_
      refine sw_seq ?_
      refine sw_region ?_  -- R13 law.go:117
      refine gl_ops 1 [(0, .string (bs nm)), (1, .slice Aa ac.length ca), (6, .pointer (some ⟨db3, 0, none⟩)), (7, .pointer (some ⟨xb7, 0, none⟩)), (8, .string (bs sv)), (9, .int .i64 ((i : Nat) : Int)), (56, .pointer (some ⟨db3, 0, none⟩))] (by kernel_rfl) ?_
      replace hH : Hp w w87 _ _ [.blk b14 77 [.int .i64 a.dv, .string (bs a.nm), a.vb, .int .i64 a.n, .int .i64 a.m, a.vl], .grp (dskO db3 mb4 ab80 D79 es81), .grp (rdkO xb7 rv82 (D79).off (actsI (D79).ar) part83 L84)] := hH
      replace hH := hH.pick [1, 0, 2] (by kernel_rfl) (os' := [.grp (dskO db3 mb4 ab80 D79 es81), .blk b14 77 [.int .i64 a.dv, .string (bs a.nm), a.vb, .int .i64 a.n, .int .i64 a.m, a.vl], .grp (rdkO xb7 rv82 (D79).off (actsI (D79).ar) part83 L84)]) (by kernel_rfl)
      replace hH : Hp w w87 _ _ ([.grp (dskO db3 mb4 ab80 D79 es81)] ++ [.blk b14 77 [.int .i64 a.dv, .string (bs a.nm), a.vb, .int .i64 a.n, .int .i64 a.m, a.vl], .grp (rdkO xb7 rv82 (D79).off (actsI (D79).ar) part83 L84)]) := hH
      refine gl_st (st_call rfl rfl rfl (by kernel_rfl) rfl (Files_ct db3 mb4 ab80 D79 es81 _ _ hH.mine hI85.rep hI85.good (by omega) (by have := hI85.len; omega)) ?_)
      rintro _ w94 ⟨v89, qs90, rfl, hqs91, hF95⟩
      replace hH := hH.turns hF95; clear hF95
      replace hH : Hp w w94 _ _ [.blk b14 77 [.int .i64 a.dv, .string (bs a.nm), a.vb, .int .i64 a.n, .int .i64 a.m, a.vl], .grp (rdkO xb7 rv82 (D79).off (actsI (D79).ar) part83 L84), .grp (dskO db3 mb4 ab80 D79 es81), .row _ 89 3 qs90.length (rowC filC qs90), filRs qs90] := hH
      obtain ⟨A96, c97, rfl, hl98, hm99⟩ := hH.row_form 3 rfl
      refine gl_ops 1 [(0, .string (bs nm)), (1, .slice Aa ac.length ca), (6, .pointer (some ⟨db3, 0, none⟩)), (7, .pointer (some ⟨xb7, 0, none⟩)), (8, .string (bs sv)), (9, .int .i64 ((i : Nat) : Int)), (11, .slice A96 qs90.length c97)] (by kernel_rfl) ?_
      refine gl_done rfl ?_
      refine sw_next ?_
      refine sw_seq ?_
      refine sw_region ?_  -- R14 law.go:118
      refine gl_ops 1 [(0, .string (bs nm)), (1, .slice Aa ac.length ca), (6, .pointer (some ⟨db3, 0, none⟩)), (7, .pointer (some ⟨xb7, 0, none⟩)), (8, .string (bs sv)), (9, .int .i64 ((i : Nat) : Int)), (11, .slice A96 qs90.length c97), (12, .string (bs []))] (by kernel_rfl) ?_
      refine gl_done rfl ?_
      refine sw_next ?_
      refine sw_seq ?_
      refine sw_region ?_  -- R15 law.go:119
      refine gl_ops 1 [(0, .string (bs nm)), (1, .slice Aa ac.length ca), (6, .pointer (some ⟨db3, 0, none⟩)), (7, .pointer (some ⟨xb7, 0, none⟩)), (8, .string (bs sv)), (9, .int .i64 ((i : Nat) : Int)), (11, .slice A96 qs90.length c97), (12, .string (bs [])), (13, .int .i64 0)] (by kernel_rfl) ?_
      refine gl_done rfl ?_
      refine sw_next ?_
      refine sw_seq ?_
      refine sw_seq ?_
      refine sw_region ?_  -- R16 law.go:120
      refine gl_ops 1 [(0, .string (bs nm)), (1, .slice Aa ac.length ca), (6, .pointer (some ⟨db3, 0, none⟩)), (7, .pointer (some ⟨xb7, 0, none⟩)), (8, .string (bs sv)), (9, .int .i64 ((i : Nat) : Int)), (11, .slice A96 qs90.length c97), (12, .string (bs [])), (13, .int .i64 0), (14, .int .i64 0)] (by kernel_rfl) ?_
      refine gl_done rfl ?_
      refine sw_next ?_
      refine sw_block ?_
      replace hH : Hp w w94 _ _ [.blk b14 77 [.int .i64 a.dv, .string (bs a.nm), a.vb, .int .i64 a.n, .int .i64 a.m, a.vl], .grp (rdkO xb7 rv82 (D79).off (actsI (D79).ar) part83 L84), .grp (dskO db3 mb4 ab80 D79 es81), .row (.slice A96 qs90.length c97) 89 3 qs90.length (rowC filC qs90), filRs qs90] := hH
      replace hH := hH.pick [2, 1, 3, 4, 0] (by kernel_rfl) (os' := [.grp (dskO db3 mb4 ab80 D79 es81), .grp (rdkO xb7 rv82 (D79).off (actsI (D79).ar) part83 L84), .row (.slice A96 qs90.length c97) 89 3 qs90.length (rowC filC qs90), filRs qs90, .blk b14 77 [.int .i64 a.dv, .string (bs a.nm), a.vb, .int .i64 a.n, .int .i64 a.m, a.vl]]) (by kernel_rfl)
      replace hH := (hH.sublist (.cons_cons _ (.cons_cons _ (.cons_cons _ (.cons_cons _ (List.nil_sublist _))))))
      replace hH : Hp w w94 _ _ [.grp (dskO db3 mb4 ab80 D79 es81), .grp (rdkO xb7 rv82 (D79).off (actsI (D79).ar) part83 L84), .row (.slice A96 qs90.length c97) 89 3 qs90.length (rowC filC qs90), filRs qs90] := hH
      refine sw_loop (γ := Nat × List UInt8 × Nat) (fun (k, nw, nn) => [(0, .string (bs nm)), (1, .slice Aa ac.length ca), (6, .pointer (some ⟨db3, 0, none⟩)), (7, .pointer (some ⟨xb7, 0, none⟩)), (8, .string (bs sv)), (9, .int .i64 ((i : Nat) : Int)), (11, .slice A96 qs90.length c97), (12, .string (bs nw)), (13, .int .i64 ((nn : Nat) : Int)), (14, .int .i64 ((k : Nat) : Int))]) (fun (k, nw, nn) w_ => (k ≤ qs90.length) ∧ ((nw, nn) = scanF (D79.fs.take k) nm) ∧ Hp w w_ (w.cell?) [] [.grp (dskO db3 mb4 ab80 D79 es81), .grp (rdkO xb7 rv82 (D79).off (actsI (D79).ar) part83 L84), .row (.slice A96 qs90.length c97) 89 3 qs90.length (rowC filC qs90), filRs qs90]) (fun (k, nw, nn) => qs90.length - k) (0, [], 0) (Sub.of_eq (by kernel_rfl)) ?_ ?_
      · exact ⟨by omega, rfl, hH⟩
      clear hH
      rintro ⟨k, nw, nn⟩ w100 ⟨hk, hnw, hH⟩
      refine sw_keep [(0, .string (bs nm)), (1, .slice Aa ac.length ca), (6, .pointer (some ⟨db3, 0, none⟩)), (7, .pointer (some ⟨xb7, 0, none⟩)), (8, .string (bs sv)), (9, .int .i64 ((i : Nat) : Int)), (11, .slice A96 qs90.length c97), (12, .string (bs nw)), (13, .int .i64 ((nn : Nat) : Int)), (14, .int .i64 ((k : Nat) : Int))] (by kernel_rfl) ?_
      refine sw_seq ?_
      refine sw_seq ?_
      refine sw_region ?_  -- R17 law.go:120
      refine gl_ops 2 [(0, .string (bs nm)), (1, .slice Aa ac.length ca), (6, .pointer (some ⟨db3, 0, none⟩)), (7, .pointer (some ⟨xb7, 0, none⟩)), (8, .string (bs sv)), (9, .int .i64 ((i : Nat) : Int)), (11, .slice A96 qs90.length c97), (12, .string (bs nw)), (13, .int .i64 ((nn : Nat) : Int)), (14, .int .i64 ((k : Nat) : Int)), (58, .int .i64 ((k : Nat) : Int)), (59, .slice A96 qs90.length c97)] (by kernel_rfl) ?_
      refine gl_q rfl rfl rfl (rd_len (e := 89) (by kernel_rfl) rfl) ?_
      refine gl_ops 1 [(0, .string (bs nm)), (1, .slice Aa ac.length ca), (6, .pointer (some ⟨db3, 0, none⟩)), (7, .pointer (some ⟨xb7, 0, none⟩)), (8, .string (bs sv)), (9, .int .i64 ((i : Nat) : Int)), (11, .slice A96 qs90.length c97), (12, .string (bs nw)), (13, .int .i64 ((nn : Nat) : Int)), (14, .int .i64 ((k : Nat) : Int)), (61, .bool (decide (((k : Nat) : Int) < ((qs90.length : Nat) : Int))))] (by kernel_rfl) ?_
      refine gl_done rfl ?_
      refine sw_next ?_
      refine sw_cond rfl rfl (fun hc19 => ?_) (fun hc19 => ?_)
      ·
        try simp only [decide_eq_true_eq, beq_iff_eq, bne_iff_ne, ne_eq, Bool.not_eq_true', beq_eq_false_iff_ne, bne_eq_false_iff_eq, decide_eq_false_iff_not, Int.not_lt, Int.not_le] at hc19
        refine sw_skip ?_
        refine sw_next ?_
        refine sw_seq ?_
        refine sw_block ?_
        refine sw_seq ?_
        obtain ⟨⟨f, fv⟩, hq⟩ : ∃ q, qs90[k]? = some q := ⟨_, List.getElem?_eq_getElem (by omega)⟩
        have hf : D79.fs[k]? = some f := by rw [← hqs91, List.getElem?_map, hq]; rfl
        have hmx : qs90.length ≤ 1000000 := by have h1 := congrArg List.length hqs91; have h2 := hI85.len; simp only [List.length_map] at h1; omega
        obtain ⟨Aq, cq, rfl, hq8, hq9⟩ := (show RB _ fv f.b from rs_rbs hH 3 rfl _ (List.mem_of_getElem? hq)).row.form
        refine sw_region ?_  -- R19 law.go:121
        obtain ⟨b102, hb101, hi103⟩ := hH.row_idx 2 rfl k (by omega)
        refine gl_ops 2 [(0, .string (bs nm)), (1, .slice Aa ac.length ca), (6, .pointer (some ⟨db3, 0, none⟩)), (7, .pointer (some ⟨xb7, 0, none⟩)), (8, .string (bs sv)), (9, .int .i64 ((i : Nat) : Int)), (11, .slice A96 qs90.length c97), (12, .string (bs nw)), (13, .int .i64 ((nn : Nat) : Int)), (14, .int .i64 ((k : Nat) : Int)), (64, .slice A96 qs90.length c97), (65, .int .i64 ((k : Nat) : Int))] (by kernel_rfl) ?_
        refine gl_q rfl rfl rfl (rd_idx (e := 89) (m := 3) (by kernel_rfl) (by kernel_rfl) rfl rfl hi103) ?_
        refine gl_ops 1 [(0, .string (bs nm)), (1, .slice Aa ac.length ca), (6, .pointer (some ⟨db3, 0, none⟩)), (7, .pointer (some ⟨xb7, 0, none⟩)), (8, .string (bs sv)), (9, .int .i64 ((i : Nat) : Int)), (11, .slice A96 qs90.length c97), (12, .string (bs nw)), (13, .int .i64 ((nn : Nat) : Int)), (14, .int .i64 ((k : Nat) : Int)), (67, .pointer (some ⟨b102, k * 3, none⟩))] (by kernel_rfl) ?_
        refine gl_q rfl rfl rfl (rd_loadO 2 (by kernel_rfl) hH rfl rfl hb101 (rowC_at filC_len hq 0 (by decide) rfl)) ?_
        refine gl_ops 1 [(0, .string (bs nm)), (1, .slice Aa ac.length ca), (6, .pointer (some ⟨db3, 0, none⟩)), (7, .pointer (some ⟨xb7, 0, none⟩)), (8, .string (bs sv)), (9, .int .i64 ((i : Nat) : Int)), (11, .slice A96 qs90.length c97), (12, .string (bs nw)), (13, .int .i64 ((nn : Nat) : Int)), (14, .int .i64 ((k : Nat) : Int)), (68, .string (bs f.name)), (69, .string (bs nm))] (by kernel_rfl) ?_
        refine gl_q rfl rfl rfl (rd_seql (by kernel_rfl) rfl rfl) ?_
        refine gl_done rfl ?_
        refine sw_next ?_
        refine sw_cond rfl rfl (fun hc20 => ?_) (fun hc20 => ?_)
        ·
          try simp only [decide_eq_true_eq, beq_iff_eq, bne_iff_ne, ne_eq, Bool.not_eq_true', beq_eq_false_iff_ne, bne_eq_false_iff_eq, decide_eq_false_iff_not, Int.not_lt, Int.not_le] at hc20
          have heq := hc20
          refine sw_seq ?_
          refine sw_region ?_  -- R20 law.go:122
          obtain ⟨b105, hb104, hi106⟩ := hH.row_idx 2 rfl k (by omega)
          refine gl_ops 2 [(0, .string (bs nm)), (1, .slice Aa ac.length ca), (6, .pointer (some ⟨db3, 0, none⟩)), (7, .pointer (some ⟨xb7, 0, none⟩)), (8, .string (bs sv)), (9, .int .i64 ((i : Nat) : Int)), (11, .slice A96 qs90.length c97), (14, .int .i64 ((k : Nat) : Int)), (71, .slice A96 qs90.length c97), (72, .int .i64 ((k : Nat) : Int))] (by kernel_rfl) ?_
          refine gl_q rfl rfl rfl (rd_idx (e := 89) (m := 3) (by kernel_rfl) (by kernel_rfl) rfl rfl hi106) ?_
          refine gl_ops 1 [(0, .string (bs nm)), (1, .slice Aa ac.length ca), (6, .pointer (some ⟨db3, 0, none⟩)), (7, .pointer (some ⟨xb7, 0, none⟩)), (8, .string (bs sv)), (9, .int .i64 ((i : Nat) : Int)), (11, .slice A96 qs90.length c97), (14, .int .i64 ((k : Nat) : Int)), (74, .pointer (some ⟨b105, k * 3 + 1, none⟩))] (by kernel_rfl) ?_
          refine gl_q rfl rfl rfl (rd_loadO 2 (by kernel_rfl) hH rfl rfl hb104 (rowC_at filC_len hq 1 (by decide) rfl)) ?_
          refine gl_q rfl rfl rfl (rd_str (e := 5) (by kernel_rfl) (by kernel_rfl) (by kernel_rfl) rfl (show RB _ _ f.b from rs_rbs hH 3 rfl _ (List.mem_of_getElem? hq))) ?_
          refine gl_ops 1 [(0, .string (bs nm)), (1, .slice Aa ac.length ca), (6, .pointer (some ⟨db3, 0, none⟩)), (7, .pointer (some ⟨xb7, 0, none⟩)), (8, .string (bs sv)), (9, .int .i64 ((i : Nat) : Int)), (11, .slice A96 qs90.length c97), (12, .string (bs f.b)), (14, .int .i64 ((k : Nat) : Int))] (by kernel_rfl) ?_
          refine gl_done rfl ?_
          refine sw_next ?_
          refine sw_region ?_  -- R21 law.go:123
          obtain ⟨b108, hb107, hi109⟩ := hH.row_idx 2 rfl k (by omega)
          refine gl_ops 2 [(0, .string (bs nm)), (1, .slice Aa ac.length ca), (6, .pointer (some ⟨db3, 0, none⟩)), (7, .pointer (some ⟨xb7, 0, none⟩)), (8, .string (bs sv)), (9, .int .i64 ((i : Nat) : Int)), (11, .slice A96 qs90.length c97), (12, .string (bs f.b)), (14, .int .i64 ((k : Nat) : Int)), (77, .slice A96 qs90.length c97), (78, .int .i64 ((k : Nat) : Int))] (by kernel_rfl) ?_
          refine gl_q rfl rfl rfl (rd_idx (e := 89) (m := 3) (by kernel_rfl) (by kernel_rfl) rfl rfl hi109) ?_
          refine gl_ops 1 [(0, .string (bs nm)), (1, .slice Aa ac.length ca), (6, .pointer (some ⟨db3, 0, none⟩)), (7, .pointer (some ⟨xb7, 0, none⟩)), (8, .string (bs sv)), (9, .int .i64 ((i : Nat) : Int)), (11, .slice A96 qs90.length c97), (12, .string (bs f.b)), (14, .int .i64 ((k : Nat) : Int)), (80, .pointer (some ⟨b108, k * 3 + 2, none⟩))] (by kernel_rfl) ?_
          refine gl_q rfl rfl rfl (rd_loadO 2 (by kernel_rfl) hH rfl rfl hb107 (rowC_at filC_len hq 2 (by decide) rfl)) ?_
          refine gl_ops 1 [(0, .string (bs nm)), (1, .slice Aa ac.length ca), (6, .pointer (some ⟨db3, 0, none⟩)), (7, .pointer (some ⟨xb7, 0, none⟩)), (8, .string (bs sv)), (9, .int .i64 ((i : Nat) : Int)), (11, .slice A96 qs90.length c97), (12, .string (bs f.b)), (13, .int .i64 ((f.sure : Nat) : Int)), (14, .int .i64 ((k : Nat) : Int))] (by kernel_rfl) ?_
          refine gl_done rfl ?_
          refine bkN ?_
          refine sw_next ?_
          refine sw_region ?_  -- R18 law.go:120
          refine gl_ops 2 [(0, .string (bs nm)), (1, .slice Aa ac.length ca), (6, .pointer (some ⟨db3, 0, none⟩)), (7, .pointer (some ⟨xb7, 0, none⟩)), (8, .string (bs sv)), (9, .int .i64 ((i : Nat) : Int)), (11, .slice A96 qs90.length c97), (12, .string (bs f.b)), (13, .int .i64 ((f.sure : Nat) : Int)), (63, .int .i64 (IntKind.i64.wrap (((k : Nat) : Int) + 1)))] (by kernel_rfl) ?_
          refine gl_cv 63 (.int .i64 ((k + 1 : Nat) : Int)) (cv_i64 (by omega)) rfl ?_
          refine gl_ops 1 [(0, .string (bs nm)), (1, .slice Aa ac.length ca), (6, .pointer (some ⟨db3, 0, none⟩)), (7, .pointer (some ⟨xb7, 0, none⟩)), (8, .string (bs sv)), (9, .int .i64 ((i : Nat) : Int)), (11, .slice A96 qs90.length c97), (12, .string (bs f.b)), (13, .int .i64 ((f.sure : Nat) : Int)), (14, .int .i64 ((k + 1 : Nat) : Int))] (by kernel_rfl) ?_
          refine gl_done rfl ?_
          refine rnd_end (g := (k, nw, nn)) (k + 1, f.b, f.sure) (by kernel_rfl) ?_ ?_
          · exact ⟨by omega, by rw [scanF_next hf, if_pos heq], hH⟩
          · show qs90.length - (k + 1) < qs90.length - k; omega
        try simp only [decide_eq_false_iff_not, beq_eq_false_iff_ne, bne_eq_false_iff_eq, ne_eq, Decidable.not_not, Int.not_lt, Int.not_le, Bool.not_eq_false', beq_iff_eq, bne_iff_ne, decide_eq_true_eq] at hc20
        have hne := hc20
        refine sw_skip ?_
        refine bkN ?_
        refine sw_next ?_
        refine sw_region ?_  -- R18 law.go:120
        refine gl_ops 2 [(0, .string (bs nm)), (1, .slice Aa ac.length ca), (6, .pointer (some ⟨db3, 0, none⟩)), (7, .pointer (some ⟨xb7, 0, none⟩)), (8, .string (bs sv)), (9, .int .i64 ((i : Nat) : Int)), (11, .slice A96 qs90.length c97), (12, .string (bs nw)), (13, .int .i64 ((nn : Nat) : Int)), (63, .int .i64 (IntKind.i64.wrap (((k : Nat) : Int) + 1)))] (by kernel_rfl) ?_
        refine gl_cv 63 (.int .i64 ((k + 1 : Nat) : Int)) (cv_i64 (by omega)) rfl ?_
        refine gl_ops 1 [(0, .string (bs nm)), (1, .slice Aa ac.length ca), (6, .pointer (some ⟨db3, 0, none⟩)), (7, .pointer (some ⟨xb7, 0, none⟩)), (8, .string (bs sv)), (9, .int .i64 ((i : Nat) : Int)), (11, .slice A96 qs90.length c97), (12, .string (bs nw)), (13, .int .i64 ((nn : Nat) : Int)), (14, .int .i64 ((k + 1 : Nat) : Int))] (by kernel_rfl) ?_
        refine gl_done rfl ?_
        refine rnd_end (g := (k, nw, nn)) (k + 1, nw, nn) (by kernel_rfl) ?_ ?_
        · exact ⟨by omega, by rw [scanF_next hf, if_neg hne]; exact hnw, hH⟩
        · show qs90.length - (k + 1) < qs90.length - k; omega
      try simp only [decide_eq_false_iff_not, beq_eq_false_iff_ne, bne_eq_false_iff_eq, ne_eq, Decidable.not_not, Int.not_lt, Int.not_le, Bool.not_eq_false', beq_iff_eq, bne_iff_ne, decide_eq_true_eq] at hc19
      refine sw_exit ?_
      refine thX ?_
      refine thX ?_
      refine bkH ?_
      refine sw_next ?_
      refine sw_seq ?_
      refine sw_seq ?_
      have hkl : D79.fs.length ≤ k := by have h1 := congrArg List.length hqs91; simp only [List.length_map] at h1; omega
      rw [List.take_of_length_le hkl, scanF_all hI85.good.srt] at hnw
      have hnw1 : nw = (oldF D79.fs nm).b := congrArg Prod.fst hnw
      have hnw2 : nn = (oldF D79.fs nm).sure := congrArg Prod.snd hnw
      have hlast : Last (oldF D.fs nm) (oldF D79.fs nm) := by rw [← hD86]; exact last_act hI.good nm hskip
      have hlf := last_facts hlast (oldF_sure hI.good nm) hsv
      rw [← hnw1, ← hnw2] at hlf
      obtain ⟨l1, l2, l3, l4⟩ := hlf
      refine sw_region ?_  -- R22 law.go:126
      refine gl_ops 2 [(0, .string (bs nm)), (1, .slice Aa ac.length ca), (6, .pointer (some ⟨db3, 0, none⟩)), (7, .pointer (some ⟨xb7, 0, none⟩)), (8, .string (bs sv)), (9, .int .i64 ((i : Nat) : Int)), (12, .string (bs nw)), (13, .int .i64 ((nn : Nat) : Int)), (83, .int .i64 (((bs nw).size : Nat) : Int))] (by kernel_rfl) ?_
      refine gl_cv 83 (.int .i64 ((nw.length : Nat) : Int)) (by rw [bs_size]) rfl ?_
      refine gl_ops 2 [(0, .string (bs nm)), (1, .slice Aa ac.length ca), (6, .pointer (some ⟨db3, 0, none⟩)), (7, .pointer (some ⟨xb7, 0, none⟩)), (8, .string (bs sv)), (9, .int .i64 ((i : Nat) : Int)), (12, .string (bs nw)), (13, .int .i64 ((nn : Nat) : Int)), (83, .int .i64 ((nw.length : Nat) : Int)), (85, .int .i64 (((bs sv).size : Nat) : Int))] (by kernel_rfl) ?_
      refine gl_cv 85 (.int .i64 ((sv.length : Nat) : Int)) (by rw [bs_size]) rfl ?_
      refine gl_ops 2 [(0, .string (bs nm)), (1, .slice Aa ac.length ca), (6, .pointer (some ⟨db3, 0, none⟩)), (7, .pointer (some ⟨xb7, 0, none⟩)), (8, .string (bs sv)), (9, .int .i64 ((i : Nat) : Int)), (12, .string (bs nw)), (13, .int .i64 ((nn : Nat) : Int)), (87, .bool (decide (((nw.length : Nat) : Int) < ((sv.length : Nat) : Int))))] (by kernel_rfl) ?_
      refine gl_split 87 (b := decide (((nw.length : Nat) : Int) < ((sv.length : Nat) : Int))) rfl (fun hg21 => ?_) (fun hg21 => ?_)
      ·
        try simp only [decide_eq_true_eq, beq_iff_eq, bne_iff_ne, ne_eq, Bool.not_eq_true', beq_eq_false_iff_ne, bne_eq_false_iff_eq, decide_eq_false_iff_not, Int.not_lt, Int.not_le] at hg21
        exfalso; omega
      try simp only [decide_eq_false_iff_not, beq_eq_false_iff_ne, bne_eq_false_iff_eq, ne_eq, Decidable.not_not, Int.not_lt, Int.not_le, Bool.not_eq_false', beq_iff_eq, bne_iff_ne, decide_eq_true_eq] at hg21
      refine gl_ops 3 [(0, .string (bs nm)), (1, .slice Aa ac.length ca), (6, .pointer (some ⟨db3, 0, none⟩)), (7, .pointer (some ⟨xb7, 0, none⟩)), (8, .string (bs sv)), (9, .int .i64 ((i : Nat) : Int)), (12, .string (bs nw)), (13, .int .i64 ((nn : Nat) : Int)), (87, .bool false), (88, .string (bs nw)), (90, .int .i64 (((bs sv).size : Nat) : Int))] (by kernel_rfl) ?_
      refine gl_cv 90 (.int .i64 ((sv.length : Nat) : Int)) (by rw [bs_size]) rfl ?_
      refine gl_q rfl rfl rfl (rd_scut (by kernel_rfl) rfl (.inl ⟨rfl, rfl⟩) (.inr ⟨_, _, rfl, rfl⟩) (by omega) (by omega)) ?_
      refine gl_ops 1 [(0, .string (bs nm)), (1, .slice Aa ac.length ca), (6, .pointer (some ⟨db3, 0, none⟩)), (7, .pointer (some ⟨xb7, 0, none⟩)), (8, .string (bs sv)), (9, .int .i64 ((i : Nat) : Int)), (12, .string (bs nw)), (13, .int .i64 ((nn : Nat) : Int)), (87, .bool false), (91, .string (bs ((nw.drop 0).take (sv.length - 0)))), (92, .string (bs sv))] (by kernel_rfl) ?_
      refine gl_q rfl rfl rfl (rd_sneq (by kernel_rfl) rfl rfl) ?_
      refine gl_cv 93 (.bool false) (by rw [List.drop_zero, Nat.sub_zero, l2]; simp) rfl ?_
      refine gl_ops 5 [(0, .string (bs nm)), (1, .slice Aa ac.length ca), (6, .pointer (some ⟨db3, 0, none⟩)), (7, .pointer (some ⟨xb7, 0, none⟩)), (9, .int .i64 ((i : Nat) : Int)), (12, .string (bs nw)), (13, .int .i64 ((nn : Nat) : Int)), (95, .bool false), (96, .int .i64 ((nn : Nat) : Int)), (98, .int .i64 (((bs sv).size : Nat) : Int))] (by kernel_rfl) ?_
      refine gl_cv 98 (.int .i64 ((sv.length : Nat) : Int)) (by rw [bs_size]) rfl ?_
      refine gl_ops 3 [(0, .string (bs nm)), (1, .slice Aa ac.length ca), (6, .pointer (some ⟨db3, 0, none⟩)), (7, .pointer (some ⟨xb7, 0, none⟩)), (9, .int .i64 ((i : Nat) : Int)), (12, .string (bs nw)), (13, .int .i64 ((nn : Nat) : Int)), (101, .bool (decide (((nn : Nat) : Int) < ((sv.length : Nat) : Int))))] (by kernel_rfl) ?_
      refine gl_split 101 (b := decide (((nn : Nat) : Int) < ((sv.length : Nat) : Int))) rfl (fun hg22 => ?_) (fun hg22 => ?_)
      ·
        try simp only [decide_eq_true_eq, beq_iff_eq, bne_iff_ne, ne_eq, Bool.not_eq_true', beq_eq_false_iff_ne, bne_eq_false_iff_eq, decide_eq_false_iff_not, Int.not_lt, Int.not_le] at hg22
        exfalso; omega
      try simp only [decide_eq_false_iff_not, beq_eq_false_iff_ne, bne_eq_false_iff_eq, ne_eq, Decidable.not_not, Int.not_lt, Int.not_le, Bool.not_eq_false', beq_iff_eq, bne_iff_ne, decide_eq_true_eq] at hg22
      refine gl_ops 3 [(0, .string (bs nm)), (1, .slice Aa ac.length ca), (6, .pointer (some ⟨db3, 0, none⟩)), (7, .pointer (some ⟨xb7, 0, none⟩)), (9, .int .i64 ((i : Nat) : Int)), (12, .string (bs nw)), (13, .int .i64 ((nn : Nat) : Int)), (101, .bool false), (102, .int .i64 ((nn : Nat) : Int)), (104, .int .i64 (((bs nw).size : Nat) : Int))] (by kernel_rfl) ?_
      refine gl_cv 104 (.int .i64 ((nw.length : Nat) : Int)) (by rw [bs_size]) rfl ?_
      refine gl_ops 2 [(0, .string (bs nm)), (1, .slice Aa ac.length ca), (6, .pointer (some ⟨db3, 0, none⟩)), (7, .pointer (some ⟨xb7, 0, none⟩)), (9, .int .i64 ((i : Nat) : Int)), (12, .string (bs nw)), (13, .int .i64 ((nn : Nat) : Int)), (106, .bool (decide (((nn : Nat) : Int) > ((nw.length : Nat) : Int))))] (by kernel_rfl) ?_
      refine gl_done rfl ?_
      refine sw_next ?_
      refine sw_cond rfl rfl (fun hc23 => ?_) (fun hc23 => ?_)
      · exact absurd hc23 (by simp only [decide_eq_true_eq, beq_iff_eq, bne_iff_ne, ne_eq]; omega)
      clear hc23
      refine sw_skip ?_
      refine sw_next ?_
      refine sw_region ?_  -- R24 law.go:129
      refine gl_ops 2 [(0, .string (bs nm)), (1, .slice Aa ac.length ca), (6, .pointer (some ⟨db3, 0, none⟩)), (7, .pointer (some ⟨xb7, 0, none⟩)), (9, .int .i64 ((i : Nat) : Int)), (107, .string (bs nw)), (108, .int .i64 ((nn : Nat) : Int))] (by kernel_rfl) ?_
      refine gl_q rfl rfl rfl (rd_scut (by kernel_rfl) rfl (.inl ⟨rfl, rfl⟩) (.inr ⟨_, _, rfl, rfl⟩) (by omega) (by omega)) ?_
      refine gl_cv 109 (.string (bs (nw.take nn))) (by rw [List.drop_zero, Nat.sub_zero]) rfl ?_
      refine gl_ops 1 [(0, .string (bs nm)), (1, .slice Aa ac.length ca), (6, .pointer (some ⟨db3, 0, none⟩)), (7, .pointer (some ⟨xb7, 0, none⟩)), (8, .string (bs (nw.take nn))), (9, .int .i64 ((i : Nat) : Int))] (by kernel_rfl) ?_
      refine gl_done rfl ?_
      refine bkN ?_
      refine sw_next ?_
      refine sw_region ?_  -- R9 law.go:111
      refine gl_ops 2 [(0, .string (bs nm)), (1, .slice Aa ac.length ca), (6, .pointer (some ⟨db3, 0, none⟩)), (7, .pointer (some ⟨xb7, 0, none⟩)), (8, .string (bs (nw.take nn))), (33, .int .i64 (IntKind.i64.wrap (((i : Nat) : Int) + 1)))] (by kernel_rfl) ?_
      refine gl_cv 33 (.int .i64 ((i + 1 : Nat) : Int)) (cv_i64 (by omega)) rfl ?_
      refine gl_ops 1 [(0, .string (bs nm)), (1, .slice Aa ac.length ca), (6, .pointer (some ⟨db3, 0, none⟩)), (7, .pointer (some ⟨xb7, 0, none⟩)), (8, .string (bs (nw.take nn))), (9, .int .i64 ((i + 1 : Nat) : Int))] (by kernel_rfl) ?_
      refine gl_done rfl ?_
      refine rnd_end (g := (i, D, es, ab, rv, part, L, sv)) (i + 1, D79, es81, ab80, rv82, part83, L84, nw.take nn) (by kernel_rfl) ?_ ?_
      replace hH := (hH.sublist (.cons_cons _ (.cons_cons _ (List.nil_sublist _))))
      replace hH : Hp w w100 _ _ [.grp (dskO db3 mb4 ab80 D79 es81), .grp (rdkO xb7 rv82 (D79).off (actsI (D79).ar) part83 L84)] := hH
      · exact ⟨by omega, by omega, hI85, by rw [hnw1, hnw2], hH⟩
      · show ac.length - (i + 1) < ac.length - i; omega
    try simp only [decide_eq_false_iff_not, beq_eq_false_iff_ne, bne_eq_false_iff_eq, ne_eq, Decidable.not_not, Int.not_lt, Int.not_le, Bool.not_eq_false', beq_iff_eq, bne_iff_ne, decide_eq_true_eq] at hc3
    refine sw_exit ?_
    refine thX ?_
    refine thX ?_
    refine bkH ?_
    refine sw_next ?_
    refine sw_seq ?_
    refine sw_region ?_  -- R25 law.go:131
    refine gl_ops 1 [(4, .bool true)] (by kernel_rfl) ?_
    refine gl_done rfl ?_
    refine sw_next ?_
    refine sw_ret ?_
    refine ret1 rfl rfl  ?_
    exact ⟨rfl, (hH.sublist (List.nil_sublist _)).fresh⟩
  try simp only [decide_eq_false_iff_not, beq_eq_false_iff_ne, bne_eq_false_iff_eq, ne_eq, Decidable.not_not, Int.not_lt, Int.not_le, Bool.not_eq_false', beq_iff_eq, bne_iff_ne, decide_eq_true_eq] at hg2
  refine gl_ops 3 [(0, .string (bs nm)), (1, .slice Aa ac.length ca), (6, .pointer (some ⟨db3, 0, none⟩)), (7, .pointer (some ⟨xb7, 0, none⟩)), (8, .string (bs sv)), (9, .int .i64 ((i : Nat) : Int)), (31, .bool false)] (by kernel_rfl) ?_
  refine gl_done rfl ?_
  refine sw_next ?_
  refine sw_false rfl rfl ?_
  refine sw_exit ?_
  refine thX ?_
  refine thX ?_
  refine bkH ?_
  refine sw_next ?_
  refine sw_seq ?_
  refine sw_region ?_  -- R25 law.go:131
  refine gl_ops 1 [(4, .bool true)] (by kernel_rfl) ?_
  refine gl_done rfl ?_
  refine sw_next ?_
  refine sw_ret ?_
  refine ret1 rfl rfl  ?_
  exact ⟨rfl, (hH.sublist (List.nil_sublist _)).fresh⟩
end Go.Proofs.YtjcchjgkkplamaaDoor
