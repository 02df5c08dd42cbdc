/- Law 18: what is done to one file changes no other one: the law's walk. -/
import Derived.Test.YtjcchjgkkplamaaDoorDiskC
set_option maxRecDepth 100000
set_option maxHeartbeats 4000000
set_option linter.unusedVariables false
set_option linter.unusedSimpArgs false
namespace Go.Proofs.YtjcchjgkkplamaaDoor
open Go.RowKit Go.SW

theorem DiskApart_ct (va : Value) (ac : List AV) (nm : List UInt8) (w : World) (hG : w.cell? ⟨0, 0, none⟩ = some errTy) (hR : Row w.cell? va 6 ac.length (rowC actC ac)) (hok : ∀ a ∈ ac, ActOk w a) (hB : sumB ac ≤ 1048576) :
    Fun Tryd.prog 10 [va, .string (bs nm)] w fun v w' => v = .bool true ∧ Fresh w w' [] := by
  obtain ⟨Aa, ca, rfl, ha1, ha2⟩ := hR.form
  have ha3 := ha2
  simp only [maxLen] at ha3
  refine fun_of_sw Tryd.func10 rfl 66 rfl rfl ?_
  have hH := Hp.start w
  refine sw_seq ?_
  refine sw_region ?_  -- R0 more.go:10
  refine gl_ops 1 [(0, .slice Aa ac.length ca), (1, .string (bs nm))] (by kernel_rfl) ?_
  refine gl_done rfl ?_
  refine sw_next ?_
  refine sw_seq ?_
  refine sw_region ?_  -- R1 more.go:11
  refine gl_st (st_call rfl rfl rfl (by kernel_rfl) rfl (Small18_ct _ (hH.zin _ _ hG)) ?_)
  rintro _ w1 ⟨rfl, hF2⟩
  replace hH := hH.call hF2; clear hF2
  refine gl_ops 1 [(0, .slice Aa ac.length ca), (1, .string (bs nm)), (5, .bool true)] (by kernel_rfl) ?_
  refine gl_done rfl ?_
  refine sw_next ?_
  refine sw_seq ?_
  refine sw_region ?_  -- R2 more.go:12
  refine gl_st (st_call rfl rfl rfl (by kernel_rfl) rfl (DNew_ct _) ?_)
  rintro _ w5 ⟨db3, mb4, rfl, hF6⟩
  replace hH := hH.call hF6; clear hF6
  refine gl_ops 1 [(0, .slice Aa ac.length ca), (1, .string (bs nm)), (5, .bool true), (6, .pointer (some ⟨db3, 0, none⟩))] (by kernel_rfl) ?_
  refine gl_done rfl ?_
  refine sw_next ?_
  refine sw_seq ?_
  refine sw_seq ?_
  refine sw_region ?_  -- R3 more.go:13
  refine gl_ops 6 [(0, .slice Aa ac.length ca), (1, .string (bs nm)), (6, .pointer (some ⟨db3, 0, none⟩)), (18, .bool false)] (by kernel_rfl) ?_
  refine gl_done rfl ?_
  refine sw_next ?_
  refine sw_false rfl rfl ?_
  refine sw_skip ?_
  refine sw_next ?_
  refine sw_seq ?_
  refine sw_region ?_  -- R5 more.go:16
  refine gl_st (st_call rfl rfl rfl (by kernel_rfl) rfl (RNew18_ct _) ?_)
  rintro _ w8 ⟨xb7, rfl, hF9⟩
  replace hH := hH.call hF9; clear hF9
  refine gl_ops 1 [(0, .slice Aa ac.length ca), (1, .string (bs nm)), (6, .pointer (some ⟨db3, 0, none⟩)), (7, .pointer (some ⟨xb7, 0, none⟩))] (by kernel_rfl) ?_
  refine gl_done rfl ?_
  refine sw_next ?_
  refine sw_seq ?_
  refine sw_seq ?_
  refine sw_region ?_  -- R6 more.go:17
  refine gl_ops 1 [(0, .slice Aa ac.length ca), (1, .string (bs nm)), (6, .pointer (some ⟨db3, 0, none⟩)), (7, .pointer (some ⟨xb7, 0, none⟩)), (8, .int .i64 0)] (by kernel_rfl) ?_
  refine gl_done rfl ?_
  refine sw_next ?_
  refine sw_block ?_
  replace hH := (hH.sublist (.cons_cons _ (.cons_cons _ (List.nil_sublist _))))
  replace hH : Hp w w8 _ _ [.grp (dskO db3 mb4 0 ⟨[], false, none⟩ []), .grp (rdkO xb7 (.slice none 0 0) false (-1) 0 [])] := hH
  refine sw_loop (γ := Nat × Dsk × List PE × Nat × Value × Int × FV) (fun (i, D, es, ab, rv, part, L) => [(0, .slice Aa ac.length ca), (1, .string (bs nm)), (6, .pointer (some ⟨db3, 0, none⟩)), (7, .pointer (some ⟨xb7, 0, none⟩)), (8, .int .i64 ((i : Nat) : Int))]) (fun (i, D, es, ab, rv, part, L) w_ => (i ≤ ac.length) ∧ (i ≤ 200) ∧ (Inv D es L part (sumB (ac.take i)) i) ∧ Hp w w_ (w.cell?) [] [.grp (dskO db3 mb4 ab D es), .grp (rdkO xb7 rv (D).off (actsI (D).ar) part L)]) (fun (i, D, es, ab, rv, part, L) => ac.length - i) (0, ⟨[], false, none⟩, [], 0, .slice none 0 0, 0, []) (Sub.of_eq (by kernel_rfl)) ?_ ?_
  · exact ⟨by omega, by omega, inv_new _, hH⟩
  clear hH
  rintro ⟨i, D, es, ab, rv, part, L⟩ w10 ⟨hi, hi2, hI, hH⟩
  have hal := sumB_le ac i
  refine sw_keep [(0, .slice Aa ac.length ca), (1, .string (bs nm)), (6, .pointer (some ⟨db3, 0, none⟩)), (7, .pointer (some ⟨xb7, 0, none⟩)), (8, .int .i64 ((i : Nat) : Int))] (by kernel_rfl) ?_
  refine sw_seq ?_
  refine sw_seq ?_
  refine sw_region ?_  -- R7 more.go:17
  refine gl_ops 2 [(0, .slice Aa ac.length ca), (1, .string (bs nm)), (6, .pointer (some ⟨db3, 0, none⟩)), (7, .pointer (some ⟨xb7, 0, none⟩)), (8, .int .i64 ((i : Nat) : Int)), (20, .int .i64 ((i : Nat) : Int)), (21, .slice Aa ac.length ca)] (by kernel_rfl) ?_
  refine gl_q rfl rfl rfl (rd_len (e := 77) (by kernel_rfl) rfl) ?_
  refine gl_ops 2 [(0, .slice Aa ac.length ca), (1, .string (bs nm)), (6, .pointer (some ⟨db3, 0, none⟩)), (7, .pointer (some ⟨xb7, 0, none⟩)), (8, .int .i64 ((i : Nat) : Int)), (24, .bool (decide (((i : Nat) : Int) < ((ac.length : Nat) : Int))))] (by kernel_rfl) ?_
  refine gl_split 24 (b := decide (((i : Nat) : Int) < ((ac.length : Nat) : Int))) rfl (fun hg2 => ?_) (fun hg2 => ?_)
  ·
    try simp only [decide_eq_true_eq, beq_iff_eq, bne_iff_ne, ne_eq, Bool.not_eq_true', beq_eq_false_iff_ne, bne_eq_false_iff_eq, decide_eq_false_iff_not, Int.not_lt, Int.not_le] at hg2
    refine gl_ops 3 [(0, .slice Aa ac.length ca), (1, .string (bs nm)), (6, .pointer (some ⟨db3, 0, none⟩)), (7, .pointer (some ⟨xb7, 0, none⟩)), (8, .int .i64 ((i : Nat) : Int)), (27, .bool (decide (((i : Nat) : Int) < (200 : Int))))] (by kernel_rfl) ?_
    refine gl_done rfl ?_
    refine sw_next ?_
    refine sw_cond rfl rfl (fun hc3 => ?_) (fun hc3 => ?_)
    ·
      try simp only [decide_eq_true_eq, beq_iff_eq, bne_iff_ne, ne_eq, Bool.not_eq_true', beq_eq_false_iff_ne, bne_eq_false_iff_eq, decide_eq_false_iff_not, Int.not_lt, Int.not_le] at hc3
      refine sw_skip ?_
      refine sw_next ?_
      refine sw_seq ?_
      refine sw_block ?_
      refine sw_seq ?_
      refine sw_region ?_  -- R9 more.go:18
      refine gl_ops 1 [(0, .slice Aa ac.length ca), (1, .string (bs nm)), (6, .pointer (some ⟨db3, 0, none⟩)), (7, .pointer (some ⟨xb7, 0, none⟩)), (8, .int .i64 ((i : Nat) : Int)), (30, .pointer (some ⟨db3, 0, none⟩))] (by kernel_rfl) ?_
      replace hH : Hp w w10 _ _ ([.grp (dskO db3 mb4 ab D es)] ++ [.grp (rdkO xb7 rv (D).off (actsI (D).ar) part L)]) := hH
      refine gl_st (st_call rfl rfl rfl (by kernel_rfl) rfl (Files_ct db3 mb4 ab D es _ _ hH.mine hI.rep hI.good (by omega) (by have := hI.len; omega)) ?_)
      rintro _ w16 ⟨v11, qs12, rfl, hqs13, hF17⟩
      replace hH := hH.turns hF17; clear hF17
      replace hH : Hp w w16 _ _ [.grp (rdkO xb7 rv (D).off (actsI (D).ar) part L), .grp (dskO db3 mb4 ab D es), .row _ 89 3 qs12.length (rowC filC qs12), filRs qs12] := hH
      obtain ⟨A18, c19, rfl, hl20, hm21⟩ := hH.row_form 2 rfl
      refine gl_ops 1 [(0, .slice Aa ac.length ca), (1, .string (bs nm)), (6, .pointer (some ⟨db3, 0, none⟩)), (7, .pointer (some ⟨xb7, 0, none⟩)), (8, .int .i64 ((i : Nat) : Int)), (31, .slice A18 qs12.length c19), (32, .string (bs nm))] (by kernel_rfl) ?_
      refine gl_st (st_call rfl rfl rfl (by kernel_rfl) rfl (Only_ct _ qs12 nm _ (hH.row_reads 2 rfl)) ?_)
      rintro _ w24 ⟨u22, rfl, ho23, hF25⟩
      replace hH := hH.call hF25; clear hF25
      obtain ⟨A26, c27, hv28, -, -⟩ := (ho23 _ (hH.row_reads 2 rfl)).form
      subst hv28
      refine gl_ops 1 [(0, .slice Aa ac.length ca), (1, .string (bs nm)), (6, .pointer (some ⟨db3, 0, none⟩)), (7, .pointer (some ⟨xb7, 0, none⟩)), (8, .int .i64 ((i : Nat) : Int)), (9, .slice A26 ((onlyL qs12 nm).length) c27)] (by kernel_rfl) ?_
      refine gl_done rfl ?_
      refine sw_next ?_
      refine sw_seq ?_
      obtain ⟨a, ha⟩ : ∃ a, ac[i]? = some a := ⟨_, List.getElem?_eq_getElem (by omega)⟩
      have hka := hok a (List.mem_of_getElem? ha)
      have hs1 := sumB_next ha
      have hs2 := sumB_le ac (i + 1)
      obtain ⟨hka1, hka2, hka3, hka4, hka5⟩ := hka
      refine sw_region ?_  -- R10 more.go:19
      obtain ⟨p29, hi31, hp30⟩ := hR.idx i (by omega) (by decide)
      refine gl_ops 4 [(0, .slice Aa ac.length ca), (1, .string (bs nm)), (6, .pointer (some ⟨db3, 0, none⟩)), (7, .pointer (some ⟨xb7, 0, none⟩)), (8, .int .i64 ((i : Nat) : Int)), (9, .slice A26 ((onlyL qs12 nm).length) c27), (34, .pointer (some ⟨db3, 0, none⟩)), (35, .pointer (some ⟨xb7, 0, none⟩)), (36, .slice Aa ac.length ca), (37, .int .i64 ((i : Nat) : Int))] (by kernel_rfl) ?_
      refine gl_q rfl rfl rfl (rd_idx (e := 77) (m := 6) (by kernel_rfl) (by kernel_rfl) rfl rfl hi31) ?_
      refine gl_q rfl rfl rfl (rd_loadZA (by kernel_rfl) hH hp30 rfl 0 rfl [.int .i64 a.dv, .string (bs a.nm), a.vb, .int .i64 a.n, .int .i64 a.m, a.vl] (by kernel_rfl) (rowC_all actC_len ha 0 _ rfl)) ?_
      obtain ⟨D32, hD39⟩ : ∃ D2, actD D a.dv a.nm a.b a.n a.m a.ks = D2 := ⟨_, rfl⟩
      replace hH : Hp w w24 _ _ [.grp (rdkO xb7 rv (D).off (actsI (D).ar) part L), .grp (dskO db3 mb4 ab D es), .row (.slice A18 qs12.length c19) 89 3 qs12.length (rowC filC qs12), filRs qs12] := hH
      replace hH := hH.pick [1, 0, 2, 3] (by kernel_rfl) (os' := [.grp (dskO db3 mb4 ab D es), .grp (rdkO xb7 rv (D).off (actsI (D).ar) part L), .row (.slice A18 qs12.length c19) 89 3 qs12.length (rowC filC qs12), filRs qs12]) (by kernel_rfl)
      replace hH : Hp w w24 _ _ ([.grp (dskO db3 mb4 ab D es), .grp (rdkO xb7 rv (D).off (actsI (D).ar) part L)] ++ [.row (.slice A18 qs12.length c19) 89 3 qs12.length (rowC filC qs12), filRs qs12]) := hH
      refine gl_st (st_call rfl rfl rfl (by kernel_rfl) rfl (by have h9 := Act_ct db3 mb4 ab xb7 rv D es L part (sumB (ac.take i)) i a.dv a.nm a.b a.n a.m a.ks a.vb a.vl _ hH.mine hI (hka1.mono hH.zoff) (hka2.mono hH.zoff) (hH.zoff _ _ hG) (by omega) (by omega) (by omega) (by omega) (by omega) hka3; rw [hD39] at h9; exact h9) ?_)
      rintro _ w40 ⟨ab33, es34, rv35, part36, L37, rfl, hI38, hF41⟩
      replace hH := hH.turns hF41; clear hF41
      replace hH : Hp w w40 _ _ [.row (.slice A18 qs12.length c19) 89 3 qs12.length (rowC filC qs12), filRs qs12, .grp (dskO db3 mb4 ab33 D32 es34), .grp (rdkO xb7 rv35 (D32).off (actsI (D32).ar) part36 L37)] := hH
      rw [← hs1] at hI38
      refine gl_done rfl ?_
      refine sw_next ?_
      refine sw_seq ?_
      refine sw_region ?_  -- R11 more.go:20
      refine gl_ops 1 [(0, .slice Aa ac.length ca), (1, .string (bs nm)), (6, .pointer (some ⟨db3, 0, none⟩)), (7, .pointer (some ⟨xb7, 0, none⟩)), (8, .int .i64 ((i : Nat) : Int)), (9, .slice A26 ((onlyL qs12 nm).length) c27), (41, .pointer (some ⟨db3, 0, none⟩))] (by kernel_rfl) ?_
      replace hH : Hp w w40 _ _ [.row (.slice A18 qs12.length c19) 89 3 qs12.length (rowC filC qs12), filRs qs12, .grp (dskO db3 mb4 ab33 D32 es34), .grp (rdkO xb7 rv35 (D32).off (actsI (D32).ar) part36 L37)] := hH
      replace hH := hH.pick [2, 0, 1, 3] (by kernel_rfl) (os' := [.grp (dskO db3 mb4 ab33 D32 es34), .row (.slice A18 qs12.length c19) 89 3 qs12.length (rowC filC qs12), filRs qs12, .grp (rdkO xb7 rv35 (D32).off (actsI (D32).ar) part36 L37)]) (by kernel_rfl)
      replace hH : Hp w w40 _ _ ([.grp (dskO db3 mb4 ab33 D32 es34)] ++ [.row (.slice A18 qs12.length c19) 89 3 qs12.length (rowC filC qs12), filRs qs12, .grp (rdkO xb7 rv35 (D32).off (actsI (D32).ar) part36 L37)]) := hH
      refine gl_st (st_call rfl rfl rfl (by kernel_rfl) rfl (Files_ct db3 mb4 ab33 D32 es34 _ _ hH.mine hI38.rep hI38.good (by omega) (by have := hI38.len; omega)) ?_)
      rintro _ w47 ⟨v42, qs43, rfl, hqs44, hF48⟩
      replace hH := hH.turns hF48; clear hF48
      replace hH : Hp w w47 _ _ [.row (.slice A18 qs12.length c19) 89 3 qs12.length (rowC filC qs12), filRs qs12, .grp (rdkO xb7 rv35 (D32).off (actsI (D32).ar) part36 L37), .grp (dskO db3 mb4 ab33 D32 es34), .row _ 89 3 qs43.length (rowC filC qs43), filRs qs43] := hH
      obtain ⟨A49, c50, rfl, hl51, hm52⟩ := hH.row_form 4 rfl
      refine gl_ops 1 [(0, .slice Aa ac.length ca), (1, .string (bs nm)), (6, .pointer (some ⟨db3, 0, none⟩)), (7, .pointer (some ⟨xb7, 0, none⟩)), (8, .int .i64 ((i : Nat) : Int)), (9, .slice A26 ((onlyL qs12 nm).length) c27), (42, .slice A49 qs43.length c50), (43, .string (bs nm))] (by kernel_rfl) ?_
      refine gl_st (st_call rfl rfl rfl (by kernel_rfl) rfl (Only_ct _ qs43 nm _ (hH.row_reads 4 rfl)) ?_)
      rintro _ w55 ⟨u53, rfl, ho54, hF56⟩
      replace hH := hH.call hF56; clear hF56
      obtain ⟨A57, c58, hv59, -, -⟩ := (ho54 _ (hH.row_reads 4 rfl)).form
      subst hv59
      refine gl_ops 1 [(0, .slice Aa ac.length ca), (1, .string (bs nm)), (6, .pointer (some ⟨db3, 0, none⟩)), (7, .pointer (some ⟨xb7, 0, none⟩)), (8, .int .i64 ((i : Nat) : Int)), (9, .slice A26 ((onlyL qs12 nm).length) c27), (10, .slice A57 ((onlyL qs43 nm).length) c58)] (by kernel_rfl) ?_
      refine gl_done rfl ?_
      refine sw_next ?_
      refine sw_seq ?_
      refine sw_region ?_  -- R12 more.go:21
      obtain ⟨p60, hi62, hp61⟩ := hR.idx i (by omega) (by decide)
      refine gl_ops 2 [(0, .slice Aa ac.length ca), (1, .string (bs nm)), (6, .pointer (some ⟨db3, 0, none⟩)), (7, .pointer (some ⟨xb7, 0, none⟩)), (8, .int .i64 ((i : Nat) : Int)), (9, .slice A26 ((onlyL qs12 nm).length) c27), (10, .slice A57 ((onlyL qs43 nm).length) c58), (45, .slice Aa ac.length ca), (46, .int .i64 ((i : Nat) : Int))] (by kernel_rfl) ?_
      refine gl_q rfl rfl rfl (rd_idx (e := 77) (m := 6) (by kernel_rfl) (by kernel_rfl) rfl rfl hi62) ?_
      refine gl_ops 1 [(0, .slice Aa ac.length ca), (1, .string (bs nm)), (6, .pointer (some ⟨db3, 0, none⟩)), (7, .pointer (some ⟨xb7, 0, none⟩)), (8, .int .i64 ((i : Nat) : Int)), (9, .slice A26 ((onlyL qs12 nm).length) c27), (10, .slice A57 ((onlyL qs43 nm).length) c58), (48, .pointer (some p60))] (by kernel_rfl) ?_
      refine gl_q rfl rfl rfl (rd_load (by kernel_rfl) rfl (hH.zin _ _ (hp61 0 _ (by decide) (rowC_at actC_len ha 0 (by decide) rfl)))) ?_
      refine gl_ops 2 [(0, .slice Aa ac.length ca), (1, .string (bs nm)), (6, .pointer (some ⟨db3, 0, none⟩)), (7, .pointer (some ⟨xb7, 0, none⟩)), (8, .int .i64 ((i : Nat) : Int)), (9, .slice A26 ((onlyL qs12 nm).length) c27), (10, .slice A57 ((onlyL qs43 nm).length) c58), (51, .bool ((a.dv : Int) != (6 : Int)))] (by kernel_rfl) ?_
      refine gl_split 51 (b := (a.dv : Int) != (6 : Int)) rfl (fun hg4 => ?_) (fun hg4 => ?_)
      ·
        try simp only [decide_eq_true_eq, beq_iff_eq, bne_iff_ne, ne_eq, Bool.not_eq_true', beq_eq_false_iff_ne, bne_eq_false_iff_eq, decide_eq_false_iff_not, Int.not_lt, Int.not_le] at hg4
        have h6 := hg4
        obtain ⟨p63, hi65, hp64⟩ := hR.idx i (by omega) (by decide)
        refine gl_ops 2 [(0, .slice Aa ac.length ca), (1, .string (bs nm)), (6, .pointer (some ⟨db3, 0, none⟩)), (7, .pointer (some ⟨xb7, 0, none⟩)), (8, .int .i64 ((i : Nat) : Int)), (9, .slice A26 ((onlyL qs12 nm).length) c27), (10, .slice A57 ((onlyL qs43 nm).length) c58), (51, .bool true), (52, .slice Aa ac.length ca), (53, .int .i64 ((i : Nat) : Int))] (by kernel_rfl) ?_
        refine gl_q rfl rfl rfl (rd_idx (e := 77) (m := 6) (by kernel_rfl) (by kernel_rfl) rfl rfl hi65) ?_
        refine gl_ops 1 [(0, .slice Aa ac.length ca), (1, .string (bs nm)), (6, .pointer (some ⟨db3, 0, none⟩)), (7, .pointer (some ⟨xb7, 0, none⟩)), (8, .int .i64 ((i : Nat) : Int)), (9, .slice A26 ((onlyL qs12 nm).length) c27), (10, .slice A57 ((onlyL qs43 nm).length) c58), (51, .bool true), (55, .pointer (some (p63.add 1)))] (by kernel_rfl) ?_
        refine gl_q rfl rfl rfl (rd_load (by kernel_rfl) rfl (hH.zin _ _ (hp64 1 _ (by decide) (rowC_at actC_len ha 1 (by decide) rfl)))) ?_
        refine gl_ops 1 [(0, .slice Aa ac.length ca), (1, .string (bs nm)), (6, .pointer (some ⟨db3, 0, none⟩)), (7, .pointer (some ⟨xb7, 0, none⟩)), (8, .int .i64 ((i : Nat) : Int)), (9, .slice A26 ((onlyL qs12 nm).length) c27), (10, .slice A57 ((onlyL qs43 nm).length) c58), (51, .bool true), (56, .string (bs a.nm)), (57, .string (bs nm))] (by kernel_rfl) ?_
        refine gl_q rfl rfl rfl (rd_sneq (by kernel_rfl) rfl rfl) ?_
        refine gl_ops 2 [(0, .slice Aa ac.length ca), (1, .string (bs nm)), (6, .pointer (some ⟨db3, 0, none⟩)), (7, .pointer (some ⟨xb7, 0, none⟩)), (8, .int .i64 ((i : Nat) : Int)), (9, .slice A26 ((onlyL qs12 nm).length) c27), (10, .slice A57 ((onlyL qs43 nm).length) c58), (60, .bool (!(a.nm == nm)))] (by kernel_rfl) ?_
        refine gl_split 60 (b := !(a.nm == nm)) rfl (fun hg5 => ?_) (fun hg5 => ?_)
        ·
          try simp only [decide_eq_true_eq, beq_iff_eq, bne_iff_ne, ne_eq, Bool.not_eq_true', beq_eq_false_iff_ne, bne_eq_false_iff_eq, decide_eq_false_iff_not, Int.not_lt, Int.not_le] at hg5
          have hne := hg5
          refine gl_ops 2 [(0, .slice Aa ac.length ca), (1, .string (bs nm)), (6, .pointer (some ⟨db3, 0, none⟩)), (7, .pointer (some ⟨xb7, 0, none⟩)), (8, .int .i64 ((i : Nat) : Int)), (60, .bool true), (61, .slice A26 ((onlyL qs12 nm).length) c27), (62, .slice A57 ((onlyL qs43 nm).length) c58)] (by kernel_rfl) ?_
          refine gl_st (st_call rfl rfl rfl (by kernel_rfl) rfl (Same18_ct _ _ (onlyL qs12 nm) (onlyL qs43 nm) _ (ho23 _ (hH.row_reads 0 rfl)) (ho54 _ (hH.row_reads 4 rfl)) (fun q hq => rs_rbs hH 1 rfl q (onlyL_sub hq)) (fun q hq => rs_rbs hH 5 rfl q (onlyL_sub hq))) ?_)
          rintro _ w68 ⟨bS66, rfl, hbS67, hF69⟩
          replace hH := hH.call hF69; clear hF69
          have e9 : bS66 = true := hbS67.2 (by rw [onlyL_fst, onlyL_fst, hqs13, hqs44, ← hD39, getF_act hI.good.srt h6 hne])
          subst e9
          refine gl_ops 2 [(0, .slice Aa ac.length ca), (1, .string (bs nm)), (6, .pointer (some ⟨db3, 0, none⟩)), (7, .pointer (some ⟨xb7, 0, none⟩)), (8, .int .i64 ((i : Nat) : Int)), (65, .bool false)] (by kernel_rfl) ?_
          refine gl_done rfl ?_
          refine sw_next ?_
          refine sw_false rfl rfl ?_
          refine sw_skip ?_
          refine bkN ?_
          refine sw_next ?_
          refine sw_region ?_  -- R8 more.go:17
          refine gl_ops 2 [(0, .slice Aa ac.length ca), (1, .string (bs nm)), (6, .pointer (some ⟨db3, 0, none⟩)), (7, .pointer (some ⟨xb7, 0, none⟩)), (29, .int .i64 (IntKind.i64.wrap (((i : Nat) : Int) + 1)))] (by kernel_rfl) ?_
          refine gl_cv 29 (.int .i64 ((i + 1 : Nat) : Int)) (cv_i64 (by omega)) rfl ?_
          refine gl_ops 1 [(0, .slice Aa ac.length ca), (1, .string (bs nm)), (6, .pointer (some ⟨db3, 0, none⟩)), (7, .pointer (some ⟨xb7, 0, none⟩)), (8, .int .i64 ((i + 1 : Nat) : Int))] (by kernel_rfl) ?_
          refine gl_done rfl ?_
          refine rnd_end (g := (i, D, es, ab, rv, part, L)) (i + 1, D32, es34, ab33, rv35, part36, L37) (by kernel_rfl) ?_ ?_
          replace hH : Hp w w68 _ _ [.row (.slice A18 qs12.length c19) 89 3 qs12.length (rowC filC qs12), filRs qs12, .grp (rdkO xb7 rv35 (D32).off (actsI (D32).ar) part36 L37), .grp (dskO db3 mb4 ab33 D32 es34), .row (.slice A49 qs43.length c50) 89 3 qs43.length (rowC filC qs43), filRs qs43] := hH
          replace hH := hH.pick [3, 2, 0, 1, 4, 5] (by kernel_rfl) (os' := [.grp (dskO db3 mb4 ab33 D32 es34), .grp (rdkO xb7 rv35 (D32).off (actsI (D32).ar) part36 L37), .row (.slice A18 qs12.length c19) 89 3 qs12.length (rowC filC qs12), filRs qs12, .row (.slice A49 qs43.length c50) 89 3 qs43.length (rowC filC qs43), filRs qs43]) (by kernel_rfl)
          replace hH := (hH.sublist (.cons_cons _ (.cons_cons _ (List.nil_sublist _))))
          replace hH : Hp w w68 _ _ [.grp (dskO db3 mb4 ab33 D32 es34), .grp (rdkO xb7 rv35 (D32).off (actsI (D32).ar) part36 L37)] := hH
          · exact ⟨by omega, by omega, hI38, hH⟩
          · show ac.length - (i + 1) < ac.length - i; omega
        try simp only [decide_eq_false_iff_not, beq_eq_false_iff_ne, bne_eq_false_iff_eq, ne_eq, Decidable.not_not, Int.not_lt, Int.not_le, Bool.not_eq_false', beq_iff_eq, bne_iff_ne, decide_eq_true_eq] at hg5
        refine gl_ops 5 [(0, .slice Aa ac.length ca), (1, .string (bs nm)), (6, .pointer (some ⟨db3, 0, none⟩)), (7, .pointer (some ⟨xb7, 0, none⟩)), (8, .int .i64 ((i : Nat) : Int)), (65, .bool false)] (by kernel_rfl) ?_
        refine gl_done rfl ?_
        refine sw_next ?_
        refine sw_false rfl rfl ?_
        refine sw_skip ?_
        refine bkN ?_
        refine sw_next ?_
        refine sw_region ?_  -- R8 more.go:17
        refine gl_ops 2 [(0, .slice Aa ac.length ca), (1, .string (bs nm)), (6, .pointer (some ⟨db3, 0, none⟩)), (7, .pointer (some ⟨xb7, 0, none⟩)), (29, .int .i64 (IntKind.i64.wrap (((i : Nat) : Int) + 1)))] (by kernel_rfl) ?_
        refine gl_cv 29 (.int .i64 ((i + 1 : Nat) : Int)) (cv_i64 (by omega)) rfl ?_
        refine gl_ops 1 [(0, .slice Aa ac.length ca), (1, .string (bs nm)), (6, .pointer (some ⟨db3, 0, none⟩)), (7, .pointer (some ⟨xb7, 0, none⟩)), (8, .int .i64 ((i + 1 : Nat) : Int))] (by kernel_rfl) ?_
        refine gl_done rfl ?_
        refine rnd_end (g := (i, D, es, ab, rv, part, L)) (i + 1, D32, es34, ab33, rv35, part36, L37) (by kernel_rfl) ?_ ?_
        replace hH : Hp w w55 _ _ [.row (.slice A18 qs12.length c19) 89 3 qs12.length (rowC filC qs12), filRs qs12, .grp (rdkO xb7 rv35 (D32).off (actsI (D32).ar) part36 L37), .grp (dskO db3 mb4 ab33 D32 es34), .row (.slice A49 qs43.length c50) 89 3 qs43.length (rowC filC qs43), filRs qs43] := hH
        replace hH := hH.pick [3, 2, 0, 1, 4, 5] (by kernel_rfl) (os' := [.grp (dskO db3 mb4 ab33 D32 es34), .grp (rdkO xb7 rv35 (D32).off (actsI (D32).ar) part36 L37), .row (.slice A18 qs12.length c19) 89 3 qs12.length (rowC filC qs12), filRs qs12, .row (.slice A49 qs43.length c50) 89 3 qs43.length (rowC filC qs43), filRs qs43]) (by kernel_rfl)
        replace hH := (hH.sublist (.cons_cons _ (.cons_cons _ (List.nil_sublist _))))
        replace hH : Hp w w55 _ _ [.grp (dskO db3 mb4 ab33 D32 es34), .grp (rdkO xb7 rv35 (D32).off (actsI (D32).ar) part36 L37)] := hH
        · exact ⟨by omega, by omega, hI38, hH⟩
        · show ac.length - (i + 1) < ac.length - i; omega
      try simp only [decide_eq_false_iff_not, beq_eq_false_iff_ne, bne_eq_false_iff_eq, ne_eq, Decidable.not_not, Int.not_lt, Int.not_le, Bool.not_eq_false', beq_iff_eq, bne_iff_ne, decide_eq_true_eq] at hg4
      refine gl_ops 14 [(0, .slice Aa ac.length ca), (1, .string (bs nm)), (6, .pointer (some ⟨db3, 0, none⟩)), (7, .pointer (some ⟨xb7, 0, none⟩)), (8, .int .i64 ((i : Nat) : Int)), (65, .bool false)] (by kernel_rfl) ?_
      refine gl_done rfl ?_
      refine sw_next ?_
      refine sw_false rfl rfl ?_
      refine sw_skip ?_
      refine bkN ?_
      refine sw_next ?_
      refine sw_region ?_  -- R8 more.go:17
      refine gl_ops 2 [(0, .slice Aa ac.length ca), (1, .string (bs nm)), (6, .pointer (some ⟨db3, 0, none⟩)), (7, .pointer (some ⟨xb7, 0, none⟩)), (29, .int .i64 (IntKind.i64.wrap (((i : Nat) : Int) + 1)))] (by kernel_rfl) ?_
      refine gl_cv 29 (.int .i64 ((i + 1 : Nat) : Int)) (cv_i64 (by omega)) rfl ?_
      refine gl_ops 1 [(0, .slice Aa ac.length ca), (1, .string (bs nm)), (6, .pointer (some ⟨db3, 0, none⟩)), (7, .pointer (some ⟨xb7, 0, none⟩)), (8, .int .i64 ((i + 1 : Nat) : Int))] (by kernel_rfl) ?_
      refine gl_done rfl ?_
      refine rnd_end (g := (i, D, es, ab, rv, part, L)) (i + 1, D32, es34, ab33, rv35, part36, L37) (by kernel_rfl) ?_ ?_
      replace hH : Hp w w55 _ _ [.row (.slice A18 qs12.length c19) 89 3 qs12.length (rowC filC qs12), filRs qs12, .grp (rdkO xb7 rv35 (D32).off (actsI (D32).ar) part36 L37), .grp (dskO db3 mb4 ab33 D32 es34), .row (.slice A49 qs43.length c50) 89 3 qs43.length (rowC filC qs43), filRs qs43] := hH
      replace hH := hH.pick [3, 2, 0, 1, 4, 5] (by kernel_rfl) (os' := [.grp (dskO db3 mb4 ab33 D32 es34), .grp (rdkO xb7 rv35 (D32).off (actsI (D32).ar) part36 L37), .row (.slice A18 qs12.length c19) 89 3 qs12.length (rowC filC qs12), filRs qs12, .row (.slice A49 qs43.length c50) 89 3 qs43.length (rowC filC qs43), filRs qs43]) (by kernel_rfl)
      replace hH := (hH.sublist (.cons_cons _ (.cons_cons _ (List.nil_sublist _))))
      replace hH : Hp w w55 _ _ [.grp (dskO db3 mb4 ab33 D32 es34), .grp (rdkO xb7 rv35 (D32).off (actsI (D32).ar) part36 L37)] := hH
      · exact ⟨by omega, by omega, hI38, hH⟩
      · show ac.length - (i + 1) < ac.length - i; omega
    try simp only [decide_eq_false_iff_not, beq_eq_false_iff_ne, bne_eq_false_iff_eq, ne_eq, Decidable.not_not, Int.not_lt, Int.not_le, Bool.not_eq_false', beq_iff_eq, bne_iff_ne, decide_eq_true_eq] at hc3
    refine sw_exit ?_
    refine thX ?_
    refine thX ?_
    refine bkH ?_
    refine sw_next ?_
    refine sw_seq ?_
    refine sw_region ?_  -- R14 more.go:25
    refine gl_ops 1 [(4, .bool true)] (by kernel_rfl) ?_
    refine gl_done rfl ?_
    refine sw_next ?_
    refine sw_ret ?_
    refine ret1 rfl rfl  ?_
    exact ⟨rfl, (hH.sublist (List.nil_sublist _)).fresh⟩
  try simp only [decide_eq_false_iff_not, beq_eq_false_iff_ne, bne_eq_false_iff_eq, ne_eq, Decidable.not_not, Int.not_lt, Int.not_le, Bool.not_eq_false', beq_iff_eq, bne_iff_ne, decide_eq_true_eq] at hg2
  refine gl_ops 3 [(0, .slice Aa ac.length ca), (1, .string (bs nm)), (6, .pointer (some ⟨db3, 0, none⟩)), (7, .pointer (some ⟨xb7, 0, none⟩)), (8, .int .i64 ((i : Nat) : Int)), (27, .bool false)] (by kernel_rfl) ?_
  refine gl_done rfl ?_
  refine sw_next ?_
  refine sw_false rfl rfl ?_
  refine sw_exit ?_
  refine thX ?_
  refine thX ?_
  refine bkH ?_
  refine sw_next ?_
  refine sw_seq ?_
  refine sw_region ?_  -- R14 more.go:25
  refine gl_ops 1 [(4, .bool true)] (by kernel_rfl) ?_
  refine gl_done rfl ?_
  refine sw_next ?_
  refine sw_ret ?_
  refine ret1 rfl rfl  ?_
  exact ⟨rfl, (hH.sublist (List.nil_sublist _)).fresh⟩
end Go.Proofs.YtjcchjgkkplamaaDoor
