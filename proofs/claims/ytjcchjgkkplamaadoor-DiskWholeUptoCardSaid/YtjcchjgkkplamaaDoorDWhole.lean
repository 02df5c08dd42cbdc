/- Law 18: a Put lasts wholly, or not at all: the law's walk. -/
import Derived.Test.YtjcchjgkkplamaaDoorDiskC
set_option maxRecDepth 100000
set_option maxHeartbeats 4000000
set_option linter.unusedVariables false
set_option linter.unusedSimpArgs false
namespace Go.Proofs.YtjcchjgkkplamaaDoor
open Go.RowKit Go.SW

theorem DiskWhole_ct (va : Value) (ac : List AV) (nm : List UInt8) (vp : Value) (p : List UInt8) (pq : Int) (ct : Bool) (vk : Value) (ks : List Int) (w : World) (hG : w.cell? ⟨0, 0, none⟩ = some errTy) (hR0 : Row w.cell? va 6 ac.length (rowC actC ac)) (hok : ∀ a ∈ ac, ActOk w a) (hB : sumB ac + p.length ≤ 1048576) (hs : nm.length ≤ 140737488355328) (hp : RB w.cell? vp p) (hk : Row w.cell? vk 1 ks.length (iv ks)) :
    Fun Tryd.prog 7 [va, .string (bs nm), vp, .int .i64 pq, .bool ct, vk] w fun v w' => v = .bool true ∧ Fresh w w' [] := by
  obtain ⟨Aa, ca, rfl, ha1, ha2⟩ := hR0.form
  have ha3 := ha2
  simp only [maxLen] at ha3
  obtain ⟨Ap, cp, rfl, hp1, hp2⟩ := hp.row.form
  obtain ⟨Ak, ck, rfl, hk1, hk2⟩ := hk.form
  refine fun_of_sw Tryd.func7 rfl 107 rfl rfl ?_
  have hH := Hp.start w
  refine sw_seq ?_
  refine sw_region ?_  -- R0 law.go:135
  refine gl_ops 1 [(0, .slice Aa ac.length ca), (1, .string (bs nm)), (2, .slice Ap p.length cp), (3, .int .i64 pq), (4, .bool ct), (5, .slice Ak ks.length ck)] (by kernel_rfl) ?_
  refine gl_done rfl ?_
  refine sw_next ?_
  refine sw_seq ?_
  refine sw_region ?_  -- R1 law.go:136
  refine gl_st (st_call rfl rfl rfl (by kernel_rfl) rfl (Small18_ct _ (hH.zin _ _ hG)) ?_)
  rintro _ w1 ⟨rfl, hF2⟩
  replace hH := hH.call hF2; clear hF2
  refine gl_ops 1 [(0, .slice Aa ac.length ca), (1, .string (bs nm)), (2, .slice Ap p.length cp), (3, .int .i64 pq), (4, .bool ct), (5, .slice Ak ks.length ck), (13, .bool true)] (by kernel_rfl) ?_
  refine gl_done rfl ?_
  refine sw_next ?_
  refine sw_seq ?_
  refine sw_region ?_  -- R2 law.go:137
  refine gl_st (st_call rfl rfl rfl (by kernel_rfl) rfl (DNew_ct _) ?_)
  rintro _ w5 ⟨db3, mb4, rfl, hF6⟩
  replace hH := hH.call hF6; clear hF6
  refine gl_ops 1 [(0, .slice Aa ac.length ca), (1, .string (bs nm)), (2, .slice Ap p.length cp), (3, .int .i64 pq), (4, .bool ct), (5, .slice Ak ks.length ck), (13, .bool true), (14, .pointer (some ⟨db3, 0, none⟩))] (by kernel_rfl) ?_
  refine gl_done rfl ?_
  refine sw_next ?_
  refine sw_seq ?_
  refine sw_seq ?_
  refine sw_region ?_  -- R3 law.go:138
  refine gl_ops 6 [(0, .slice Aa ac.length ca), (1, .string (bs nm)), (2, .slice Ap p.length cp), (3, .int .i64 pq), (4, .bool ct), (5, .slice Ak ks.length ck), (14, .pointer (some ⟨db3, 0, none⟩)), (29, .bool false)] (by kernel_rfl) ?_
  refine gl_done rfl ?_
  refine sw_next ?_
  refine sw_false rfl rfl ?_
  refine sw_skip ?_
  refine sw_next ?_
  refine sw_seq ?_
  refine sw_region ?_  -- R5 law.go:141
  refine gl_st (st_call rfl rfl rfl (by kernel_rfl) rfl (RNew18_ct _) ?_)
  rintro _ w8 ⟨xb7, rfl, hF9⟩
  replace hH := hH.call hF9; clear hF9
  refine gl_ops 1 [(0, .slice Aa ac.length ca), (1, .string (bs nm)), (2, .slice Ap p.length cp), (3, .int .i64 pq), (4, .bool ct), (5, .slice Ak ks.length ck), (14, .pointer (some ⟨db3, 0, none⟩)), (15, .pointer (some ⟨xb7, 0, none⟩))] (by kernel_rfl) ?_
  refine gl_done rfl ?_
  refine sw_next ?_
  refine sw_seq ?_
  refine sw_seq ?_
  refine sw_region ?_  -- R6 law.go:142
  refine gl_ops 1 [(0, .slice Aa ac.length ca), (1, .string (bs nm)), (2, .slice Ap p.length cp), (3, .int .i64 pq), (4, .bool ct), (5, .slice Ak ks.length ck), (14, .pointer (some ⟨db3, 0, none⟩)), (15, .pointer (some ⟨xb7, 0, none⟩)), (16, .int .i64 0)] (by kernel_rfl) ?_
  refine gl_done rfl ?_
  refine sw_next ?_
  refine sw_block ?_
  replace hH := (hH.sublist (.cons_cons _ (.cons_cons _ (List.nil_sublist _))))
  replace hH : Hp w w8 _ _ [.grp (dskO db3 mb4 0 ⟨[], false, none⟩ []), .grp (rdkO xb7 (.slice none 0 0) false (-1) 0 [])] := hH
  refine sw_loop (γ := Nat × Dsk × List PE × Nat × Value × Int × FV) (fun (i, D, es, ab, rv, part, L) => [(0, .slice Aa ac.length ca), (1, .string (bs nm)), (2, .slice Ap p.length cp), (3, .int .i64 pq), (4, .bool ct), (5, .slice Ak ks.length ck), (14, .pointer (some ⟨db3, 0, none⟩)), (15, .pointer (some ⟨xb7, 0, none⟩)), (16, .int .i64 ((i : Nat) : Int))]) (fun (i, D, es, ab, rv, part, L) w_ => (i ≤ ac.length) ∧ (i ≤ 100) ∧ (Inv D es L part (sumB (ac.take i)) i) ∧ Hp w w_ (w.cell?) [] [.grp (dskO db3 mb4 ab D es), .grp (rdkO xb7 rv (D).off (actsI (D).ar) part L)]) (fun (i, D, es, ab, rv, part, L) => ac.length - i) (0, ⟨[], false, none⟩, [], 0, .slice none 0 0, 0, []) (Sub.of_eq (by kernel_rfl)) ?_ ?_
  · exact ⟨by omega, by omega, inv_new _, hH⟩
  clear hH
  rintro ⟨i, D, es, ab, rv, part, L⟩ w10 ⟨hi, hi2, hI, hH⟩
  have hal := sumB_le ac i
  refine sw_keep [(0, .slice Aa ac.length ca), (1, .string (bs nm)), (2, .slice Ap p.length cp), (3, .int .i64 pq), (4, .bool ct), (5, .slice Ak ks.length ck), (14, .pointer (some ⟨db3, 0, none⟩)), (15, .pointer (some ⟨xb7, 0, none⟩)), (16, .int .i64 ((i : Nat) : Int))] (by kernel_rfl) ?_
  refine sw_seq ?_
  refine sw_seq ?_
  refine sw_region ?_  -- R7 law.go:142
  refine gl_ops 2 [(0, .slice Aa ac.length ca), (1, .string (bs nm)), (2, .slice Ap p.length cp), (3, .int .i64 pq), (4, .bool ct), (5, .slice Ak ks.length ck), (14, .pointer (some ⟨db3, 0, none⟩)), (15, .pointer (some ⟨xb7, 0, none⟩)), (16, .int .i64 ((i : Nat) : Int)), (31, .int .i64 ((i : Nat) : Int)), (32, .slice Aa ac.length ca)] (by kernel_rfl) ?_
  refine gl_q rfl rfl rfl (rd_len (e := 77) (by kernel_rfl) rfl) ?_
  refine gl_ops 2 [(0, .slice Aa ac.length ca), (1, .string (bs nm)), (2, .slice Ap p.length cp), (3, .int .i64 pq), (4, .bool ct), (5, .slice Ak ks.length ck), (14, .pointer (some ⟨db3, 0, none⟩)), (15, .pointer (some ⟨xb7, 0, none⟩)), (16, .int .i64 ((i : Nat) : Int)), (35, .bool (decide (((i : Nat) : Int) < ((ac.length : Nat) : Int))))] (by kernel_rfl) ?_
  refine gl_split 35 (b := decide (((i : Nat) : Int) < ((ac.length : Nat) : Int))) rfl (fun hg2 => ?_) (fun hg2 => ?_)
  ·
    try simp only [decide_eq_true_eq, beq_iff_eq, bne_iff_ne, ne_eq, Bool.not_eq_true', beq_eq_false_iff_ne, bne_eq_false_iff_eq, decide_eq_false_iff_not, Int.not_lt, Int.not_le] at hg2
    refine gl_ops 3 [(0, .slice Aa ac.length ca), (1, .string (bs nm)), (2, .slice Ap p.length cp), (3, .int .i64 pq), (4, .bool ct), (5, .slice Ak ks.length ck), (14, .pointer (some ⟨db3, 0, none⟩)), (15, .pointer (some ⟨xb7, 0, none⟩)), (16, .int .i64 ((i : Nat) : Int)), (38, .bool (decide (((i : Nat) : Int) < (100 : Int))))] (by kernel_rfl) ?_
    refine gl_done rfl ?_
    refine sw_next ?_
    refine sw_cond rfl rfl (fun hc3 => ?_) (fun hc3 => ?_)
    ·
      try simp only [decide_eq_true_eq, beq_iff_eq, bne_iff_ne, ne_eq, Bool.not_eq_true', beq_eq_false_iff_ne, bne_eq_false_iff_eq, decide_eq_false_iff_not, Int.not_lt, Int.not_le] at hc3
      refine sw_skip ?_
      refine sw_next ?_
      refine sw_seq ?_
      refine sw_block ?_
      obtain ⟨a, ha⟩ : ∃ a, ac[i]? = some a := ⟨_, List.getElem?_eq_getElem (by omega)⟩
      have hka := hok a (List.mem_of_getElem? ha)
      have hs1 := sumB_next ha
      have hs2 := sumB_le ac (i + 1)
      obtain ⟨hka1, hka2, hka3, hka4, hka5⟩ := hka
      refine sw_region ?_  -- R9 law.go:143
      obtain ⟨p11, hi13, hp12⟩ := hR0.idx i (by omega) (by decide)
      refine gl_ops 4 [(0, .slice Aa ac.length ca), (1, .string (bs nm)), (2, .slice Ap p.length cp), (3, .int .i64 pq), (4, .bool ct), (5, .slice Ak ks.length ck), (14, .pointer (some ⟨db3, 0, none⟩)), (15, .pointer (some ⟨xb7, 0, none⟩)), (16, .int .i64 ((i : Nat) : Int)), (41, .pointer (some ⟨db3, 0, none⟩)), (42, .pointer (some ⟨xb7, 0, none⟩)), (43, .slice Aa ac.length ca), (44, .int .i64 ((i : Nat) : Int))] (by kernel_rfl) ?_
      refine gl_q rfl rfl rfl (rd_idx (e := 77) (m := 6) (by kernel_rfl) (by kernel_rfl) rfl rfl hi13) ?_
      refine gl_q rfl rfl rfl (rd_loadZA (by kernel_rfl) hH hp12 rfl 0 rfl [.int .i64 a.dv, .string (bs a.nm), a.vb, .int .i64 a.n, .int .i64 a.m, a.vl] (by kernel_rfl) (rowC_all actC_len ha 0 _ rfl)) ?_
      obtain ⟨D14, hD21⟩ : ∃ D2, actD D a.dv a.nm a.b a.n a.m a.ks = D2 := ⟨_, rfl⟩
      replace hH : Hp w w10 _ _ ([.grp (dskO db3 mb4 ab D es), .grp (rdkO xb7 rv (D).off (actsI (D).ar) part L)] ++ []) := hH
      refine gl_st (st_call rfl rfl rfl (by kernel_rfl) rfl (by have h9 := Act_ct db3 mb4 ab xb7 rv D es L part (sumB (ac.take i)) i a.dv a.nm a.b a.n a.m a.ks a.vb a.vl _ hH.mine hI (hka1.mono hH.zoff) (hka2.mono hH.zoff) (hH.zoff _ _ hG) (by omega) (by omega) (by omega) (by omega) (by omega) hka3; rw [hD21] at h9; exact h9) ?_)
      rintro _ w22 ⟨ab15, es16, rv17, part18, L19, rfl, hI20, hF23⟩
      replace hH := hH.turns hF23; clear hF23
      replace hH : Hp w w22 _ _ [.grp (dskO db3 mb4 ab15 D14 es16), .grp (rdkO xb7 rv17 (D14).off (actsI (D14).ar) part18 L19)] := hH
      rw [← hs1] at hI20
      refine gl_done rfl ?_
      refine bkN ?_
      refine sw_next ?_
      refine sw_region ?_  -- R8 law.go:142
      refine gl_ops 2 [(0, .slice Aa ac.length ca), (1, .string (bs nm)), (2, .slice Ap p.length cp), (3, .int .i64 pq), (4, .bool ct), (5, .slice Ak ks.length ck), (14, .pointer (some ⟨db3, 0, none⟩)), (15, .pointer (some ⟨xb7, 0, none⟩)), (40, .int .i64 (IntKind.i64.wrap (((i : Nat) : Int) + 1)))] (by kernel_rfl) ?_
      refine gl_cv 40 (.int .i64 ((i + 1 : Nat) : Int)) (cv_i64 (by omega)) rfl ?_
      refine gl_ops 1 [(0, .slice Aa ac.length ca), (1, .string (bs nm)), (2, .slice Ap p.length cp), (3, .int .i64 pq), (4, .bool ct), (5, .slice Ak ks.length ck), (14, .pointer (some ⟨db3, 0, none⟩)), (15, .pointer (some ⟨xb7, 0, none⟩)), (16, .int .i64 ((i + 1 : Nat) : Int))] (by kernel_rfl) ?_
      refine gl_done rfl ?_
      refine rnd_end (g := (i, D, es, ab, rv, part, L)) (i + 1, D14, es16, ab15, rv17, part18, L19) (by kernel_rfl) ?_ ?_
      replace hH := (hH.sublist (.cons_cons _ (.cons_cons _ (List.nil_sublist _))))
      replace hH : Hp w w22 _ _ [.grp (dskO db3 mb4 ab15 D14 es16), .grp (rdkO xb7 rv17 (D14).off (actsI (D14).ar) part18 L19)] := hH
      · exact ⟨by omega, by omega, hI20, hH⟩
      · show ac.length - (i + 1) < ac.length - i; omega
    try simp only [decide_eq_false_iff_not, beq_eq_false_iff_ne, bne_eq_false_iff_eq, ne_eq, Decidable.not_not, Int.not_lt, Int.not_le, Bool.not_eq_false', beq_iff_eq, bne_iff_ne, decide_eq_true_eq] at hc3
    refine sw_exit ?_
    refine thX ?_
    refine thX ?_
    refine bkH ?_
    refine sw_next ?_
    refine sw_seq ?_
    refine sw_region ?_  -- R10 law.go:145
    obtain ⟨D1, h1⟩ : ∃ D1, D1 = startD D [] := ⟨_, rfl⟩
    refine gl_ops 1 [(1, .string (bs nm)), (2, .slice Ap p.length cp), (3, .int .i64 pq), (4, .bool ct), (5, .slice Ak ks.length ck), (14, .pointer (some ⟨db3, 0, none⟩)), (48, .pointer (some ⟨db3, 0, none⟩))] (by kernel_rfl) ?_
    replace hH : Hp w w10 _ _ ([.grp (dskO db3 mb4 ab D es)] ++ [.grp (rdkO xb7 rv (D).off (actsI (D).ar) part L)]) := hH
    refine gl_st (st_call rfl rfl rfl (by kernel_rfl) rfl (by have h9 := Start_ct db3 mb4 ab D es (.slice none 0 0) [] _ _ hH.mine (Row.nil _ _) hI.rep hI.good (by omega) (by have := hI.len; omega); rw [← h1] at h9; exact h9) ?_)
    rintro _ w26 ⟨es24, rfl, hR25, hF27⟩
    replace hH := hH.turns hF27; clear hF27
    replace hH : Hp w w26 _ _ [.grp (rdkO xb7 rv (D).off (actsI (D).ar) part L), .grp (dskO db3 mb4 ab D1 es24)] := hH
    have hG1 : Good D1.fs (sumB (ac.take i)) := by rw [h1]; exact good_start hI.good []
    have hA1 : ArOk D1.ar := by rw [h1]; intro a p e; cases e
    have hN1 : D1.fs.length ≤ i := by rw [h1]; show (startF D.fs []).length ≤ i; unfold startF; rw [List.length_mapIdx]; exact hI.len
    refine gl_done rfl ?_
    refine sw_next ?_
    refine sw_seq ?_
    refine sw_region ?_  -- R11 law.go:146
    refine gl_ops 2 [(1, .string (bs nm)), (2, .slice Ap p.length cp), (3, .int .i64 pq), (4, .bool ct), (5, .slice Ak ks.length ck), (14, .pointer (some ⟨db3, 0, none⟩)), (51, .pointer (some ⟨db3, 0, none⟩)), (52, .string (bs nm))] (by kernel_rfl) ?_
    replace hH : Hp w w26 _ _ [.grp (rdkO xb7 rv (D).off (actsI (D).ar) part L), .grp (dskO db3 mb4 ab D1 es24)] := hH
    replace hH := hH.pick [1, 0] (by kernel_rfl) (os' := [.grp (dskO db3 mb4 ab D1 es24), .grp (rdkO xb7 rv (D).off (actsI (D).ar) part L)]) (by kernel_rfl)
    replace hH : Hp w w26 _ _ ([.grp (dskO db3 mb4 ab D1 es24)] ++ [.grp (rdkO xb7 rv (D).off (actsI (D).ar) part L)]) := hH
    refine gl_st (st_call rfl rfl rfl (by kernel_rfl) rfl (Read_ct db3 mb4 ab D1 es24 nm _ _ hH.mine hR25 hA1 hG1 (by omega) hs) ?_)
    rintro _ w30 ⟨v28, rfl, hF31⟩
    replace hH := hH.turns hF31; clear hF31
    replace hH : Hp w w30 _ _ [.grp (rdkO xb7 rv (D).off (actsI (D).ar) part L), .grp (dskO db3 mb4 ab D1 es24), .row _ 5 1 ((readD D1 nm).1.length) (bv (readD D1 nm).1)] := hH
    obtain ⟨A32, c33, rfl, hl34, hm35⟩ := hH.row_form 2 rfl
    refine gl_ops 5 [(1, .string (bs nm)), (2, .slice Ap p.length cp), (3, .int .i64 pq), (4, .bool ct), (5, .slice Ak ks.length ck), (14, .pointer (some ⟨db3, 0, none⟩)), (17, .slice A32 ((readD D1 nm).1.length) c33), (18, errV ((readD D1 nm).2))] (by kernel_rfl) ?_
    refine gl_done rfl ?_
    refine sw_next ?_
    refine sw_seq ?_
    refine sw_seq ?_
    refine sw_region ?_  -- R12 law.go:147
    refine gl_ops 1 [(1, .string (bs nm)), (2, .slice Ap p.length cp), (3, .int .i64 pq), (4, .bool ct), (5, .slice Ak ks.length ck), (14, .pointer (some ⟨db3, 0, none⟩)), (17, .slice A32 ((readD D1 nm).1.length) c33), (18, errV ((readD D1 nm).2)), (56, .bool ct)] (by kernel_rfl) ?_
    refine gl_done rfl ?_
    refine sw_next ?_
    refine sw_cond rfl rfl (fun hc4 => ?_) (fun hc4 => ?_)
    ·
      try simp only [decide_eq_true_eq, beq_iff_eq, bne_iff_ne, ne_eq, Bool.not_eq_true', beq_eq_false_iff_ne, bne_eq_false_iff_eq, decide_eq_false_iff_not, Int.not_lt, Int.not_le] at hc4
      subst hc4
      refine sw_region ?_  -- R13 law.go:148
      refine gl_ops 2 [(1, .string (bs nm)), (2, .slice Ap p.length cp), (4, .bool true), (5, .slice Ak ks.length ck), (14, .pointer (some ⟨db3, 0, none⟩)), (17, .slice A32 ((readD D1 nm).1.length) c33), (18, errV ((readD D1 nm).2)), (57, .pointer (some ⟨db3, 0, none⟩)), (58, .int .i64 pq)] (by kernel_rfl) ?_
      replace hH : Hp w w30 _ _ [.grp (rdkO xb7 rv (D).off (actsI (D).ar) part L), .grp (dskO db3 mb4 ab D1 es24), .row (.slice A32 ((readD D1 nm).1.length) c33) 5 1 ((readD D1 nm).1.length) (bv (readD D1 nm).1)] := hH
      replace hH := hH.pick [1, 0, 2] (by kernel_rfl) (os' := [.grp (dskO db3 mb4 ab D1 es24), .grp (rdkO xb7 rv (D).off (actsI (D).ar) part L), .row (.slice A32 ((readD D1 nm).1.length) c33) 5 1 ((readD D1 nm).1.length) (bv (readD D1 nm).1)]) (by kernel_rfl)
      replace hH : Hp w w30 _ _ ([.grp (dskO db3 mb4 ab D1 es24)] ++ [.grp (rdkO xb7 rv (D).off (actsI (D).ar) part L), .row (.slice A32 ((readD D1 nm).1.length) c33) 5 1 ((readD D1 nm).1.length) (bv (readD D1 nm).1)]) := hH
      refine gl_st (st_call rfl rfl rfl (by kernel_rfl) rfl (Arm_ct db3 mb4 ab D1 es24 0 pq _ hH.mine) ?_)
      rintro _ w37 ⟨ab36, rfl, hF38⟩
      replace hH := hH.turns hF38; clear hF38
      replace hH : Hp w w37 _ _ [.grp (rdkO xb7 rv (D).off (actsI (D).ar) part L), .row (.slice A32 ((readD D1 nm).1.length) c33) 5 1 ((readD D1 nm).1.length) (bv (readD D1 nm).1), .grp (dskO db3 mb4 ab36 (armD D1 0 pq) es24)] := hH
      refine gl_done rfl ?_
      refine sw_next ?_
      refine sw_seq ?_
      refine sw_region ?_  -- R14 law.go:150
      obtain ⟨R, hR⟩ : ∃ R, R = doD (armD D1 0 pq) 2 nm p 0 := ⟨_, rfl⟩
      obtain ⟨D3, h3⟩ : ∃ D3, D3 = startD R.1 ks := ⟨_, rfl⟩
      have hW := whole_put (cut := true) (part := pq) hI.good h1 (if_pos rfl).symm hR h3
      refine gl_ops 3 [(1, .string (bs nm)), (2, .slice Ap p.length cp), (4, .bool true), (5, .slice Ak ks.length ck), (14, .pointer (some ⟨db3, 0, none⟩)), (17, .slice A32 ((readD D1 nm).1.length) c33), (18, errV ((readD D1 nm).2)), (60, .pointer (some ⟨db3, 0, none⟩)), (61, .string (bs nm)), (62, .slice Ap p.length cp)] (by kernel_rfl) ?_
      replace hH : Hp w w37 _ _ [.grp (rdkO xb7 rv (D).off (actsI (D).ar) part L), .row (.slice A32 ((readD D1 nm).1.length) c33) 5 1 ((readD D1 nm).1.length) (bv (readD D1 nm).1), .grp (dskO db3 mb4 ab36 (armD D1 0 pq) es24)] := hH
      replace hH := hH.pick [2, 0, 1] (by kernel_rfl) (os' := [.grp (dskO db3 mb4 ab36 (armD D1 0 pq) es24), .grp (rdkO xb7 rv (D).off (actsI (D).ar) part L), .row (.slice A32 ((readD D1 nm).1.length) c33) 5 1 ((readD D1 nm).1.length) (bv (readD D1 nm).1)]) (by kernel_rfl)
      replace hH : Hp w w37 _ _ ([.grp (dskO db3 mb4 ab36 (armD D1 0 pq) es24)] ++ [.grp (rdkO xb7 rv (D).off (actsI (D).ar) part L), .row (.slice A32 ((readD D1 nm).1.length) c33) 5 1 ((readD D1 nm).1.length) (bv (readD D1 nm).1)]) := hH
      refine gl_st (st_call rfl rfl rfl (by kernel_rfl) rfl (by have h9 := Put_ct db3 mb4 ab36 (armD D1 0 pq) es24 nm _ p _ _ hH.mine hR25 (arOk_arm 0 pq (by omega) D1) (show Good ((armD D1 0 pq)).fs _ from hG1) (by omega) hs (hp.mono hH.zoff) (by omega); rw [← hR] at h9; exact h9) ?_)
      rintro _ w41 ⟨es39, rfl, hR40, hF42⟩
      replace hH := hH.turns hF42; clear hF42
      replace hH : Hp w w41 _ _ [.grp (rdkO xb7 rv (D).off (actsI (D).ar) part L), .row (.slice A32 ((readD D1 nm).1.length) c33) 5 1 ((readD D1 nm).1.length) (bv (readD D1 nm).1), .grp (dskO db3 mb4 ab36 R.1 es39)] := hH
      have hGR : Good R.1.fs (sumB (ac.take i) + p.length) := by rw [hR]; exact good_doD (show Good ((armD D1 0 pq)).fs _ from hG1) _ _ _ _
      have hNR : R.1.fs.length ≤ i + 1 := by rw [hR]; exact Nat.le_trans (len_doD _ _ _ _ _) (by show D1.fs.length + 1 ≤ i + 1; omega)
      refine gl_ops 1 [(1, .string (bs nm)), (2, .slice Ap p.length cp), (4, .bool true), (5, .slice Ak ks.length ck), (14, .pointer (some ⟨db3, 0, none⟩)), (17, .slice A32 ((readD D1 nm).1.length) c33), (18, errV ((readD D1 nm).2)), (19, errV R.2)] (by kernel_rfl) ?_
      refine gl_done rfl ?_
      refine sw_next ?_
      refine sw_seq ?_
      refine sw_seq ?_
      refine sw_region ?_  -- R15 law.go:151
      refine gl_ops 1 [(1, .string (bs nm)), (2, .slice Ap p.length cp), (4, .bool true), (5, .slice Ak ks.length ck), (14, .pointer (some ⟨db3, 0, none⟩)), (17, .slice A32 ((readD D1 nm).1.length) c33), (18, errV ((readD D1 nm).2)), (19, errV R.2), (64, errV R.2)] (by kernel_rfl) ?_
      refine gl_st (st_call rfl rfl rfl (by kernel_rfl) rfl (Code_ct R.2 _ (hH.zin _ _ hG)) ?_)
      rintro _ w43 ⟨rfl, hF44⟩
      replace hH := hH.call hF44; clear hF44
      refine gl_ops 1 [(1, .string (bs nm)), (2, .slice Ap p.length cp), (4, .bool true), (5, .slice Ak ks.length ck), (14, .pointer (some ⟨db3, 0, none⟩)), (17, .slice A32 ((readD D1 nm).1.length) c33), (18, errV ((readD D1 nm).2)), (19, errV R.2), (66, .bool (((R.2 : Nat) : Int) == (1 : Int)))] (by kernel_rfl) ?_
      refine gl_done rfl ?_
      refine sw_next ?_
      refine sw_cond rfl rfl (fun hc5 => ?_) (fun hc5 => ?_)
      ·
        try simp only [decide_eq_true_eq, beq_iff_eq, bne_iff_ne, ne_eq, Bool.not_eq_true', beq_eq_false_iff_ne, bne_eq_false_iff_eq, decide_eq_false_iff_not, Int.not_lt, Int.not_le] at hc5
        have hR1 : R.2 = 1 := by omega
        refine sw_seq ?_
        refine sw_region ?_  -- R16 law.go:152
        refine gl_ops 1 [(67, errV ((readD D1 nm).2))] (by kernel_rfl) ?_
        refine gl_st (st_call rfl rfl rfl (by kernel_rfl) rfl (Code_ct ((readD D1 nm).2) _ (hH.zin _ _ hG)) ?_)
        rintro _ w45 ⟨rfl, hF46⟩
        replace hH := hH.call hF46; clear hF46
        refine gl_ops 1 [(69, .bool ((((readD D1 nm).2 : Nat) : Int) == (1 : Int)))] (by kernel_rfl) ?_
        refine gl_cv 69 (.bool true) (by rcases hW with ⟨_, h9⟩ | ⟨h9, _⟩; (rw [h9]; rfl); (exfalso; rw [hR1] at h9; simp at h9)) rfl ?_
        refine gl_ops 1 [(12, .bool true)] (by kernel_rfl) ?_
        refine gl_done rfl ?_
        refine sw_next ?_
        refine sw_ret ?_
        refine thR ?_
        refine ret1 rfl rfl  ?_
        exact ⟨rfl, (hH.sublist (List.nil_sublist _)).fresh⟩
      try simp only [decide_eq_false_iff_not, beq_eq_false_iff_ne, bne_eq_false_iff_eq, ne_eq, Decidable.not_not, Int.not_lt, Int.not_le, Bool.not_eq_false', beq_iff_eq, bne_iff_ne, decide_eq_true_eq] at hc5
      have hne1 : ¬ R.2 = 1 := by omega
      have hW2 := hW.resolve_left (fun h9 => hne1 h9.1)
      obtain ⟨hw1, hw2⟩ := hW2
      refine sw_skip ?_
      refine sw_next ?_
      refine sw_seq ?_
      refine sw_seq ?_
      refine sw_region ?_  -- R17 law.go:154
      refine gl_ops 1 [(1, .string (bs nm)), (2, .slice Ap p.length cp), (4, .bool true), (5, .slice Ak ks.length ck), (14, .pointer (some ⟨db3, 0, none⟩)), (17, .slice A32 ((readD D1 nm).1.length) c33), (18, errV ((readD D1 nm).2)), (70, errV R.2)] (by kernel_rfl) ?_
      refine gl_q rfl rfl rfl (rd_err_eq (by kernel_rfl) rfl) ?_
      refine gl_ops 2 [(1, .string (bs nm)), (2, .slice Ap p.length cp), (4, .bool true), (5, .slice Ak ks.length ck), (14, .pointer (some ⟨db3, 0, none⟩)), (17, .slice A32 ((readD D1 nm).1.length) c33), (18, errV ((readD D1 nm).2)), (73, .bool ((R.2 == 0) == true))] (by kernel_rfl) ?_
      refine gl_cv 73 (.bool false) (by rw [hw1]; rfl) rfl ?_
      refine gl_done rfl ?_
      refine sw_next ?_
      refine sw_false rfl rfl ?_
      refine sw_skip ?_
      refine sw_next ?_
      refine sw_seq ?_
      refine sw_region ?_  -- R19 law.go:157
      refine gl_ops 2 [(1, .string (bs nm)), (2, .slice Ap p.length cp), (4, .bool true), (14, .pointer (some ⟨db3, 0, none⟩)), (17, .slice A32 ((readD D1 nm).1.length) c33), (18, errV ((readD D1 nm).2)), (74, .pointer (some ⟨db3, 0, none⟩)), (75, .slice Ak ks.length ck)] (by kernel_rfl) ?_
      replace hH : Hp w w43 _ _ [.grp (rdkO xb7 rv (D).off (actsI (D).ar) part L), .row (.slice A32 ((readD D1 nm).1.length) c33) 5 1 ((readD D1 nm).1.length) (bv (readD D1 nm).1), .grp (dskO db3 mb4 ab36 R.1 es39)] := hH
      replace hH := hH.pick [2, 0, 1] (by kernel_rfl) (os' := [.grp (dskO db3 mb4 ab36 R.1 es39), .grp (rdkO xb7 rv (D).off (actsI (D).ar) part L), .row (.slice A32 ((readD D1 nm).1.length) c33) 5 1 ((readD D1 nm).1.length) (bv (readD D1 nm).1)]) (by kernel_rfl)
      replace hH : Hp w w43 _ _ ([.grp (dskO db3 mb4 ab36 R.1 es39)] ++ [.grp (rdkO xb7 rv (D).off (actsI (D).ar) part L), .row (.slice A32 ((readD D1 nm).1.length) c33) 5 1 ((readD D1 nm).1.length) (bv (readD D1 nm).1)]) := hH
      refine gl_st (st_call rfl rfl rfl (by kernel_rfl) rfl (by have h9 := Start_ct db3 mb4 ab36 R.1 es39 _ ks _ _ hH.mine (hk.mono hH.zoff) hR40 hGR (by omega) (by omega); rw [← h3] at h9; exact h9) ?_)
      rintro _ w49 ⟨es47, rfl, hR48, hF50⟩
      replace hH := hH.turns hF50; clear hF50
      replace hH : Hp w w49 _ _ [.grp (rdkO xb7 rv (D).off (actsI (D).ar) part L), .row (.slice A32 ((readD D1 nm).1.length) c33) 5 1 ((readD D1 nm).1.length) (bv (readD D1 nm).1), .grp (dskO db3 mb4 ab36 D3 es47)] := hH
      have hG3 : Good D3.fs (sumB (ac.take i) + p.length) := by rw [h3]; exact good_start hGR ks
      have hA3 : ArOk D3.ar := by rw [h3]; intro a p e; cases e
      refine gl_done rfl ?_
      refine sw_next ?_
      refine sw_seq ?_
      refine sw_region ?_  -- R20 law.go:158
      refine gl_ops 2 [(2, .slice Ap p.length cp), (4, .bool true), (17, .slice A32 ((readD D1 nm).1.length) c33), (18, errV ((readD D1 nm).2)), (78, .pointer (some ⟨db3, 0, none⟩)), (79, .string (bs nm))] (by kernel_rfl) ?_
      replace hH : Hp w w49 _ _ [.grp (rdkO xb7 rv (D).off (actsI (D).ar) part L), .row (.slice A32 ((readD D1 nm).1.length) c33) 5 1 ((readD D1 nm).1.length) (bv (readD D1 nm).1), .grp (dskO db3 mb4 ab36 D3 es47)] := hH
      replace hH := hH.pick [2, 0, 1] (by kernel_rfl) (os' := [.grp (dskO db3 mb4 ab36 D3 es47), .grp (rdkO xb7 rv (D).off (actsI (D).ar) part L), .row (.slice A32 ((readD D1 nm).1.length) c33) 5 1 ((readD D1 nm).1.length) (bv (readD D1 nm).1)]) (by kernel_rfl)
      replace hH : Hp w w49 _ _ ([.grp (dskO db3 mb4 ab36 D3 es47)] ++ [.grp (rdkO xb7 rv (D).off (actsI (D).ar) part L), .row (.slice A32 ((readD D1 nm).1.length) c33) 5 1 ((readD D1 nm).1.length) (bv (readD D1 nm).1)]) := hH
      refine gl_st (st_call rfl rfl rfl (by kernel_rfl) rfl (Read_ct db3 mb4 ab36 D3 es47 nm _ _ hH.mine hR48 hA3 hG3 (by omega) hs) ?_)
      rintro _ w53 ⟨v51, rfl, hF54⟩
      replace hH := hH.turns hF54; clear hF54
      replace hH : Hp w w53 _ _ [.grp (rdkO xb7 rv (D).off (actsI (D).ar) part L), .row (.slice A32 ((readD D1 nm).1.length) c33) 5 1 ((readD D1 nm).1.length) (bv (readD D1 nm).1), .grp (dskO db3 mb4 ab36 D3 es47), .row _ 5 1 ((readD D3 nm).1.length) (bv (readD D3 nm).1)] := hH
      obtain ⟨A55, c56, rfl, hl57, hm58⟩ := hH.row_form 3 rfl
      refine gl_ops 5 [(2, .slice Ap p.length cp), (4, .bool true), (17, .slice A32 ((readD D1 nm).1.length) c33), (18, errV ((readD D1 nm).2)), (20, .slice A55 ((readD D3 nm).1.length) c56), (21, errV ((readD D3 nm).2))] (by kernel_rfl) ?_
      refine gl_done rfl ?_
      refine sw_next ?_
      refine sw_seq ?_
      refine sw_seq ?_
      refine sw_region ?_  -- R21 law.go:159
      refine gl_ops 1 [(2, .slice Ap p.length cp), (4, .bool true), (17, .slice A32 ((readD D1 nm).1.length) c33), (18, errV ((readD D1 nm).2)), (20, .slice A55 ((readD D3 nm).1.length) c56), (21, errV ((readD D3 nm).2)), (83, errV ((readD D3 nm).2))] (by kernel_rfl) ?_
      refine gl_q rfl rfl rfl (rd_err_eq (by kernel_rfl) rfl) ?_
      refine gl_ops 1 [(2, .slice Ap p.length cp), (4, .bool true), (17, .slice A32 ((readD D1 nm).1.length) c33), (18, errV ((readD D1 nm).2)), (20, .slice A55 ((readD D3 nm).1.length) c56), (21, errV ((readD D3 nm).2)), (85, .bool (((readD D3 nm).2) == 0))] (by kernel_rfl) ?_
      refine gl_split 85 (b := ((readD D3 nm).2) == 0) rfl (fun hg7 => ?_) (fun hg7 => ?_)
      ·
        try simp only [decide_eq_true_eq, beq_iff_eq, bne_iff_ne, ne_eq, Bool.not_eq_true', beq_eq_false_iff_ne, bne_eq_false_iff_eq, decide_eq_false_iff_not, Int.not_lt, Int.not_le] at hg7
        refine gl_ops 1 [(2, .slice Ap p.length cp), (4, .bool true), (17, .slice A32 ((readD D1 nm).1.length) c33), (18, errV ((readD D1 nm).2)), (20, .slice A55 ((readD D3 nm).1.length) c56), (21, errV ((readD D3 nm).2)), (85, .bool true), (86, .slice A55 ((readD D3 nm).1.length) c56)] (by kernel_rfl) ?_
        refine gl_q rfl rfl rfl (rd_str (e := 5) (by kernel_rfl) (by kernel_rfl) (by kernel_rfl) rfl (rb_own hH 3 rfl)) ?_
        refine gl_ops 1 [(4, .bool true), (17, .slice A32 ((readD D1 nm).1.length) c33), (18, errV ((readD D1 nm).2)), (20, .slice A55 ((readD D3 nm).1.length) c56), (21, errV ((readD D3 nm).2)), (85, .bool true), (87, .string (bs ((readD D3 nm).1))), (88, .slice Ap p.length cp)] (by kernel_rfl) ?_
        refine gl_q rfl rfl rfl (rd_str (e := 5) (by kernel_rfl) (by kernel_rfl) (by kernel_rfl) rfl (hp.mono hH.zin)) ?_
        refine gl_q rfl rfl rfl (rd_seql (by kernel_rfl) rfl rfl) ?_
        refine gl_ops 1 [(4, .bool true), (17, .slice A32 ((readD D1 nm).1.length) c33), (18, errV ((readD D1 nm).2)), (20, .slice A55 ((readD D3 nm).1.length) c56), (21, errV ((readD D3 nm).2)), (91, .bool (((readD D3 nm).1) == p))] (by kernel_rfl) ?_
        refine gl_done rfl ?_
        refine sw_next ?_
        refine sw_cond rfl rfl (fun hc8 => ?_) (fun hc8 => ?_)
        ·
          try simp only [decide_eq_true_eq, beq_iff_eq, bne_iff_ne, ne_eq, Bool.not_eq_true', beq_eq_false_iff_ne, bne_eq_false_iff_eq, decide_eq_false_iff_not, Int.not_lt, Int.not_le] at hc8
          refine sw_seq ?_
          refine sw_region ?_  -- R22 law.go:160
          refine gl_ops 1 [(12, .bool true)] (by kernel_rfl) ?_
          refine gl_done rfl ?_
          refine sw_next ?_
          refine sw_ret ?_
          refine thR ?_
          refine ret1 rfl rfl  ?_
          exact ⟨rfl, (hH.sublist (List.nil_sublist _)).fresh⟩
        try simp only [decide_eq_false_iff_not, beq_eq_false_iff_ne, bne_eq_false_iff_eq, ne_eq, Decidable.not_not, Int.not_lt, Int.not_le, Bool.not_eq_false', beq_iff_eq, bne_iff_ne, decide_eq_true_eq] at hc8
        have hne9 := hc8
        have hsec := hw2.resolve_left (fun h9 => hne9 (by rw [h9]))
        refine sw_skip ?_
        refine sw_next ?_
        refine sw_seq ?_
        refine sw_region ?_  -- R23 law.go:162
        refine gl_ops 3 [(17, .slice A32 ((readD D1 nm).1.length) c33), (20, .slice A55 ((readD D3 nm).1.length) c56), (21, errV ((readD D3 nm).2)), (93, .bool true), (94, errV ((readD D1 nm).2))] (by kernel_rfl) ?_
        refine gl_st (st_call rfl rfl rfl (by kernel_rfl) rfl (Code_ct ((readD D1 nm).2) _ (hH.zin _ _ hG)) ?_)
        rintro _ w59 ⟨rfl, hF60⟩
        replace hH := hH.call hF60; clear hF60
        refine gl_ops 1 [(17, .slice A32 ((readD D1 nm).1.length) c33), (20, .slice A55 ((readD D3 nm).1.length) c56), (93, .bool true), (95, .int .i64 (((readD D1 nm).2 : Nat) : Int)), (96, errV ((readD D3 nm).2))] (by kernel_rfl) ?_
        refine gl_st (st_call rfl rfl rfl (by kernel_rfl) rfl (Code_ct ((readD D3 nm).2) _ (hH.zin _ _ hG)) ?_)
        rintro _ w61 ⟨rfl, hF62⟩
        replace hH := hH.call hF62; clear hF62
        refine gl_ops 1 [(17, .slice A32 ((readD D1 nm).1.length) c33), (20, .slice A55 ((readD D3 nm).1.length) c56), (93, .bool true), (98, .bool ((((readD D1 nm).2 : Nat) : Int) == (((readD D3 nm).2 : Nat) : Int)))] (by kernel_rfl) ?_
        refine gl_cv 98 (.bool true) (by rw [hsec.2]; simp) rfl ?_
        refine gl_ops 3 [(20, .slice A55 ((readD D3 nm).1.length) c56), (100, .bool true), (101, .slice A32 ((readD D1 nm).1.length) c33)] (by kernel_rfl) ?_
        refine gl_q rfl rfl rfl (rd_str (e := 5) (by kernel_rfl) (by kernel_rfl) (by kernel_rfl) rfl (rb_own hH 1 rfl)) ?_
        refine gl_ops 1 [(100, .bool true), (102, .string (bs ((readD D1 nm).1))), (103, .slice A55 ((readD D3 nm).1.length) c56)] (by kernel_rfl) ?_
        refine gl_q rfl rfl rfl (rd_str (e := 5) (by kernel_rfl) (by kernel_rfl) (by kernel_rfl) rfl (rb_own hH 3 rfl)) ?_
        refine gl_q rfl rfl rfl (rd_seql (by kernel_rfl) rfl rfl) ?_
        refine gl_cv 105 (.bool true) (by rw [hsec.2]; simp) rfl ?_
        refine gl_ops 2 [(12, .bool true)] (by kernel_rfl) ?_
        refine gl_done rfl ?_
        refine sw_next ?_
        refine sw_ret ?_
        refine ret1 rfl rfl  ?_
        exact ⟨rfl, (hH.sublist (List.nil_sublist _)).fresh⟩
      try simp only [decide_eq_false_iff_not, beq_eq_false_iff_ne, bne_eq_false_iff_eq, ne_eq, Decidable.not_not, Int.not_lt, Int.not_le, Bool.not_eq_false', beq_iff_eq, bne_iff_ne, decide_eq_true_eq] at hg7
      have hg9 := hg7
      have hsec := hw2.resolve_left (fun h9 => hg9 (by rw [h9]))
      refine gl_ops 6 [(4, .bool true), (17, .slice A32 ((readD D1 nm).1.length) c33), (18, errV ((readD D1 nm).2)), (20, .slice A55 ((readD D3 nm).1.length) c56), (21, errV ((readD D3 nm).2)), (91, .bool false)] (by kernel_rfl) ?_
      refine gl_done rfl ?_
      refine sw_next ?_
      refine sw_false rfl rfl ?_
      refine sw_skip ?_
      refine sw_next ?_
      refine sw_seq ?_
      refine sw_region ?_  -- R23 law.go:162
      refine gl_ops 3 [(17, .slice A32 ((readD D1 nm).1.length) c33), (20, .slice A55 ((readD D3 nm).1.length) c56), (21, errV ((readD D3 nm).2)), (93, .bool true), (94, errV ((readD D1 nm).2))] (by kernel_rfl) ?_
      refine gl_st (st_call rfl rfl rfl (by kernel_rfl) rfl (Code_ct ((readD D1 nm).2) _ (hH.zin _ _ hG)) ?_)
      rintro _ w63 ⟨rfl, hF64⟩
      replace hH := hH.call hF64; clear hF64
      refine gl_ops 1 [(17, .slice A32 ((readD D1 nm).1.length) c33), (20, .slice A55 ((readD D3 nm).1.length) c56), (93, .bool true), (95, .int .i64 (((readD D1 nm).2 : Nat) : Int)), (96, errV ((readD D3 nm).2))] (by kernel_rfl) ?_
      refine gl_st (st_call rfl rfl rfl (by kernel_rfl) rfl (Code_ct ((readD D3 nm).2) _ (hH.zin _ _ hG)) ?_)
      rintro _ w65 ⟨rfl, hF66⟩
      replace hH := hH.call hF66; clear hF66
      refine gl_ops 1 [(17, .slice A32 ((readD D1 nm).1.length) c33), (20, .slice A55 ((readD D3 nm).1.length) c56), (93, .bool true), (98, .bool ((((readD D1 nm).2 : Nat) : Int) == (((readD D3 nm).2 : Nat) : Int)))] (by kernel_rfl) ?_
      refine gl_cv 98 (.bool true) (by rw [hsec.2]; simp) rfl ?_
      refine gl_ops 3 [(20, .slice A55 ((readD D3 nm).1.length) c56), (100, .bool true), (101, .slice A32 ((readD D1 nm).1.length) c33)] (by kernel_rfl) ?_
      refine gl_q rfl rfl rfl (rd_str (e := 5) (by kernel_rfl) (by kernel_rfl) (by kernel_rfl) rfl (rb_own hH 1 rfl)) ?_
      refine gl_ops 1 [(100, .bool true), (102, .string (bs ((readD D1 nm).1))), (103, .slice A55 ((readD D3 nm).1.length) c56)] (by kernel_rfl) ?_
      refine gl_q rfl rfl rfl (rd_str (e := 5) (by kernel_rfl) (by kernel_rfl) (by kernel_rfl) rfl (rb_own hH 3 rfl)) ?_
      refine gl_q rfl rfl rfl (rd_seql (by kernel_rfl) rfl rfl) ?_
      refine gl_cv 105 (.bool true) (by rw [hsec.2]; simp) rfl ?_
      refine gl_ops 2 [(12, .bool true)] (by kernel_rfl) ?_
      refine gl_done rfl ?_
      refine sw_next ?_
      refine sw_ret ?_
      refine ret1 rfl rfl  ?_
      exact ⟨rfl, (hH.sublist (List.nil_sublist _)).fresh⟩
    try simp only [decide_eq_false_iff_not, beq_eq_false_iff_ne, bne_eq_false_iff_eq, ne_eq, Decidable.not_not, Int.not_lt, Int.not_le, Bool.not_eq_false', beq_iff_eq, bne_iff_ne, decide_eq_true_eq] at hc4
    subst hc4
    refine sw_skip ?_
    refine sw_next ?_
    refine sw_seq ?_
    refine sw_region ?_  -- R14 law.go:150
    obtain ⟨R, hR⟩ : ∃ R, R = doD D1 2 nm p 0 := ⟨_, rfl⟩
    obtain ⟨D3, h3⟩ : ∃ D3, D3 = startD R.1 ks := ⟨_, rfl⟩
    have hW := whole_put (cut := false) (part := pq) hI.good h1 (if_neg (by simp)).symm hR h3
    refine gl_ops 3 [(1, .string (bs nm)), (2, .slice Ap p.length cp), (4, .bool false), (5, .slice Ak ks.length ck), (14, .pointer (some ⟨db3, 0, none⟩)), (17, .slice A32 ((readD D1 nm).1.length) c33), (18, errV ((readD D1 nm).2)), (60, .pointer (some ⟨db3, 0, none⟩)), (61, .string (bs nm)), (62, .slice Ap p.length cp)] (by kernel_rfl) ?_
    replace hH : Hp w w30 _ _ [.grp (rdkO xb7 rv (D).off (actsI (D).ar) part L), .grp (dskO db3 mb4 ab D1 es24), .row (.slice A32 ((readD D1 nm).1.length) c33) 5 1 ((readD D1 nm).1.length) (bv (readD D1 nm).1)] := hH
    replace hH := hH.pick [1, 0, 2] (by kernel_rfl) (os' := [.grp (dskO db3 mb4 ab D1 es24), .grp (rdkO xb7 rv (D).off (actsI (D).ar) part L), .row (.slice A32 ((readD D1 nm).1.length) c33) 5 1 ((readD D1 nm).1.length) (bv (readD D1 nm).1)]) (by kernel_rfl)
    replace hH : Hp w w30 _ _ ([.grp (dskO db3 mb4 ab D1 es24)] ++ [.grp (rdkO xb7 rv (D).off (actsI (D).ar) part L), .row (.slice A32 ((readD D1 nm).1.length) c33) 5 1 ((readD D1 nm).1.length) (bv (readD D1 nm).1)]) := hH
    refine gl_st (st_call rfl rfl rfl (by kernel_rfl) rfl (by have h9 := Put_ct db3 mb4 ab D1 es24 nm _ p _ _ hH.mine hR25 hA1 (show Good (D1).fs _ from hG1) (by omega) hs (hp.mono hH.zoff) (by omega); rw [← hR] at h9; exact h9) ?_)
    rintro _ w69 ⟨es67, rfl, hR68, hF70⟩
    replace hH := hH.turns hF70; clear hF70
    replace hH : Hp w w69 _ _ [.grp (rdkO xb7 rv (D).off (actsI (D).ar) part L), .row (.slice A32 ((readD D1 nm).1.length) c33) 5 1 ((readD D1 nm).1.length) (bv (readD D1 nm).1), .grp (dskO db3 mb4 ab R.1 es67)] := hH
    have hGR : Good R.1.fs (sumB (ac.take i) + p.length) := by rw [hR]; exact good_doD (show Good (D1).fs _ from hG1) _ _ _ _
    have hNR : R.1.fs.length ≤ i + 1 := by rw [hR]; exact Nat.le_trans (len_doD _ _ _ _ _) (by show D1.fs.length + 1 ≤ i + 1; omega)
    refine gl_ops 1 [(1, .string (bs nm)), (2, .slice Ap p.length cp), (4, .bool false), (5, .slice Ak ks.length ck), (14, .pointer (some ⟨db3, 0, none⟩)), (17, .slice A32 ((readD D1 nm).1.length) c33), (18, errV ((readD D1 nm).2)), (19, errV R.2)] (by kernel_rfl) ?_
    refine gl_done rfl ?_
    refine sw_next ?_
    refine sw_seq ?_
    refine sw_seq ?_
    refine sw_region ?_  -- R15 law.go:151
    refine gl_ops 1 [(1, .string (bs nm)), (2, .slice Ap p.length cp), (4, .bool false), (5, .slice Ak ks.length ck), (14, .pointer (some ⟨db3, 0, none⟩)), (17, .slice A32 ((readD D1 nm).1.length) c33), (18, errV ((readD D1 nm).2)), (19, errV R.2), (64, errV R.2)] (by kernel_rfl) ?_
    refine gl_st (st_call rfl rfl rfl (by kernel_rfl) rfl (Code_ct R.2 _ (hH.zin _ _ hG)) ?_)
    rintro _ w71 ⟨rfl, hF72⟩
    replace hH := hH.call hF72; clear hF72
    refine gl_ops 1 [(1, .string (bs nm)), (2, .slice Ap p.length cp), (4, .bool false), (5, .slice Ak ks.length ck), (14, .pointer (some ⟨db3, 0, none⟩)), (17, .slice A32 ((readD D1 nm).1.length) c33), (18, errV ((readD D1 nm).2)), (19, errV R.2), (66, .bool (((R.2 : Nat) : Int) == (1 : Int)))] (by kernel_rfl) ?_
    refine gl_done rfl ?_
    refine sw_next ?_
    refine sw_cond rfl rfl (fun hc10 => ?_) (fun hc10 => ?_)
    ·
      try simp only [decide_eq_true_eq, beq_iff_eq, bne_iff_ne, ne_eq, Bool.not_eq_true', beq_eq_false_iff_ne, bne_eq_false_iff_eq, decide_eq_false_iff_not, Int.not_lt, Int.not_le] at hc10
      have hR1 : R.2 = 1 := by omega
      refine sw_seq ?_
      refine sw_region ?_  -- R16 law.go:152
      refine gl_ops 1 [(67, errV ((readD D1 nm).2))] (by kernel_rfl) ?_
      refine gl_st (st_call rfl rfl rfl (by kernel_rfl) rfl (Code_ct ((readD D1 nm).2) _ (hH.zin _ _ hG)) ?_)
      rintro _ w73 ⟨rfl, hF74⟩
      replace hH := hH.call hF74; clear hF74
      refine gl_ops 1 [(69, .bool ((((readD D1 nm).2 : Nat) : Int) == (1 : Int)))] (by kernel_rfl) ?_
      refine gl_cv 69 (.bool true) (by rcases hW with ⟨_, h9⟩ | ⟨h9, _⟩; (rw [h9]; rfl); (exfalso; rw [hR1] at h9; simp at h9)) rfl ?_
      refine gl_ops 1 [(12, .bool true)] (by kernel_rfl) ?_
      refine gl_done rfl ?_
      refine sw_next ?_
      refine sw_ret ?_
      refine thR ?_
      refine ret1 rfl rfl  ?_
      exact ⟨rfl, (hH.sublist (List.nil_sublist _)).fresh⟩
    try simp only [decide_eq_false_iff_not, beq_eq_false_iff_ne, bne_eq_false_iff_eq, ne_eq, Decidable.not_not, Int.not_lt, Int.not_le, Bool.not_eq_false', beq_iff_eq, bne_iff_ne, decide_eq_true_eq] at hc10
    have hne1 : ¬ R.2 = 1 := by omega
    have hW2 := hW.resolve_left (fun h9 => hne1 h9.1)
    obtain ⟨hw1, hw2⟩ := hW2
    refine sw_skip ?_
    refine sw_next ?_
    refine sw_seq ?_
    refine sw_seq ?_
    refine sw_region ?_  -- R17 law.go:154
    refine gl_ops 1 [(1, .string (bs nm)), (2, .slice Ap p.length cp), (4, .bool false), (5, .slice Ak ks.length ck), (14, .pointer (some ⟨db3, 0, none⟩)), (17, .slice A32 ((readD D1 nm).1.length) c33), (18, errV ((readD D1 nm).2)), (70, errV R.2)] (by kernel_rfl) ?_
    refine gl_q rfl rfl rfl (rd_err_eq (by kernel_rfl) rfl) ?_
    refine gl_ops 2 [(1, .string (bs nm)), (2, .slice Ap p.length cp), (4, .bool false), (5, .slice Ak ks.length ck), (14, .pointer (some ⟨db3, 0, none⟩)), (17, .slice A32 ((readD D1 nm).1.length) c33), (18, errV ((readD D1 nm).2)), (73, .bool ((R.2 == 0) == false))] (by kernel_rfl) ?_
    refine gl_cv 73 (.bool false) (by rw [hw1]; rfl) rfl ?_
    refine gl_done rfl ?_
    refine sw_next ?_
    refine sw_false rfl rfl ?_
    refine sw_skip ?_
    refine sw_next ?_
    refine sw_seq ?_
    refine sw_region ?_  -- R19 law.go:157
    refine gl_ops 2 [(1, .string (bs nm)), (2, .slice Ap p.length cp), (4, .bool false), (14, .pointer (some ⟨db3, 0, none⟩)), (17, .slice A32 ((readD D1 nm).1.length) c33), (18, errV ((readD D1 nm).2)), (74, .pointer (some ⟨db3, 0, none⟩)), (75, .slice Ak ks.length ck)] (by kernel_rfl) ?_
    replace hH : Hp w w71 _ _ [.grp (rdkO xb7 rv (D).off (actsI (D).ar) part L), .row (.slice A32 ((readD D1 nm).1.length) c33) 5 1 ((readD D1 nm).1.length) (bv (readD D1 nm).1), .grp (dskO db3 mb4 ab R.1 es67)] := hH
    replace hH := hH.pick [2, 0, 1] (by kernel_rfl) (os' := [.grp (dskO db3 mb4 ab R.1 es67), .grp (rdkO xb7 rv (D).off (actsI (D).ar) part L), .row (.slice A32 ((readD D1 nm).1.length) c33) 5 1 ((readD D1 nm).1.length) (bv (readD D1 nm).1)]) (by kernel_rfl)
    replace hH : Hp w w71 _ _ ([.grp (dskO db3 mb4 ab R.1 es67)] ++ [.grp (rdkO xb7 rv (D).off (actsI (D).ar) part L), .row (.slice A32 ((readD D1 nm).1.length) c33) 5 1 ((readD D1 nm).1.length) (bv (readD D1 nm).1)]) := hH
    refine gl_st (st_call rfl rfl rfl (by kernel_rfl) rfl (by have h9 := Start_ct db3 mb4 ab R.1 es67 _ ks _ _ hH.mine (hk.mono hH.zoff) hR68 hGR (by omega) (by omega); rw [← h3] at h9; exact h9) ?_)
    rintro _ w77 ⟨es75, rfl, hR76, hF78⟩
    replace hH := hH.turns hF78; clear hF78
    replace hH : Hp w w77 _ _ [.grp (rdkO xb7 rv (D).off (actsI (D).ar) part L), .row (.slice A32 ((readD D1 nm).1.length) c33) 5 1 ((readD D1 nm).1.length) (bv (readD D1 nm).1), .grp (dskO db3 mb4 ab D3 es75)] := hH
    have hG3 : Good D3.fs (sumB (ac.take i) + p.length) := by rw [h3]; exact good_start hGR ks
    have hA3 : ArOk D3.ar := by rw [h3]; intro a p e; cases e
    refine gl_done rfl ?_
    refine sw_next ?_
    refine sw_seq ?_
    refine sw_region ?_  -- R20 law.go:158
    refine gl_ops 2 [(2, .slice Ap p.length cp), (4, .bool false), (17, .slice A32 ((readD D1 nm).1.length) c33), (18, errV ((readD D1 nm).2)), (78, .pointer (some ⟨db3, 0, none⟩)), (79, .string (bs nm))] (by kernel_rfl) ?_
    replace hH : Hp w w77 _ _ [.grp (rdkO xb7 rv (D).off (actsI (D).ar) part L), .row (.slice A32 ((readD D1 nm).1.length) c33) 5 1 ((readD D1 nm).1.length) (bv (readD D1 nm).1), .grp (dskO db3 mb4 ab D3 es75)] := hH
    replace hH := hH.pick [2, 0, 1] (by kernel_rfl) (os' := [.grp (dskO db3 mb4 ab D3 es75), .grp (rdkO xb7 rv (D).off (actsI (D).ar) part L), .row (.slice A32 ((readD D1 nm).1.length) c33) 5 1 ((readD D1 nm).1.length) (bv (readD D1 nm).1)]) (by kernel_rfl)
    replace hH : Hp w w77 _ _ ([.grp (dskO db3 mb4 ab D3 es75)] ++ [.grp (rdkO xb7 rv (D).off (actsI (D).ar) part L), .row (.slice A32 ((readD D1 nm).1.length) c33) 5 1 ((readD D1 nm).1.length) (bv (readD D1 nm).1)]) := hH
    refine gl_st (st_call rfl rfl rfl (by kernel_rfl) rfl (Read_ct db3 mb4 ab D3 es75 nm _ _ hH.mine hR76 hA3 hG3 (by omega) hs) ?_)
    rintro _ w81 ⟨v79, rfl, hF82⟩
    replace hH := hH.turns hF82; clear hF82
    replace hH : Hp w w81 _ _ [.grp (rdkO xb7 rv (D).off (actsI (D).ar) part L), .row (.slice A32 ((readD D1 nm).1.length) c33) 5 1 ((readD D1 nm).1.length) (bv (readD D1 nm).1), .grp (dskO db3 mb4 ab D3 es75), .row _ 5 1 ((readD D3 nm).1.length) (bv (readD D3 nm).1)] := hH
    obtain ⟨A83, c84, rfl, hl85, hm86⟩ := hH.row_form 3 rfl
    refine gl_ops 5 [(2, .slice Ap p.length cp), (4, .bool false), (17, .slice A32 ((readD D1 nm).1.length) c33), (18, errV ((readD D1 nm).2)), (20, .slice A83 ((readD D3 nm).1.length) c84), (21, errV ((readD D3 nm).2))] (by kernel_rfl) ?_
    refine gl_done rfl ?_
    refine sw_next ?_
    refine sw_seq ?_
    refine sw_seq ?_
    refine sw_region ?_  -- R21 law.go:159
    refine gl_ops 1 [(2, .slice Ap p.length cp), (4, .bool false), (17, .slice A32 ((readD D1 nm).1.length) c33), (18, errV ((readD D1 nm).2)), (20, .slice A83 ((readD D3 nm).1.length) c84), (21, errV ((readD D3 nm).2)), (83, errV ((readD D3 nm).2))] (by kernel_rfl) ?_
    refine gl_q rfl rfl rfl (rd_err_eq (by kernel_rfl) rfl) ?_
    refine gl_ops 1 [(2, .slice Ap p.length cp), (4, .bool false), (17, .slice A32 ((readD D1 nm).1.length) c33), (18, errV ((readD D1 nm).2)), (20, .slice A83 ((readD D3 nm).1.length) c84), (21, errV ((readD D3 nm).2)), (85, .bool (((readD D3 nm).2) == 0))] (by kernel_rfl) ?_
    refine gl_split 85 (b := ((readD D3 nm).2) == 0) rfl (fun hg12 => ?_) (fun hg12 => ?_)
    ·
      try simp only [decide_eq_true_eq, beq_iff_eq, bne_iff_ne, ne_eq, Bool.not_eq_true', beq_eq_false_iff_ne, bne_eq_false_iff_eq, decide_eq_false_iff_not, Int.not_lt, Int.not_le] at hg12
      refine gl_ops 1 [(2, .slice Ap p.length cp), (4, .bool false), (17, .slice A32 ((readD D1 nm).1.length) c33), (18, errV ((readD D1 nm).2)), (20, .slice A83 ((readD D3 nm).1.length) c84), (21, errV ((readD D3 nm).2)), (85, .bool true), (86, .slice A83 ((readD D3 nm).1.length) c84)] (by kernel_rfl) ?_
      refine gl_q rfl rfl rfl (rd_str (e := 5) (by kernel_rfl) (by kernel_rfl) (by kernel_rfl) rfl (rb_own hH 3 rfl)) ?_
      refine gl_ops 1 [(4, .bool false), (17, .slice A32 ((readD D1 nm).1.length) c33), (18, errV ((readD D1 nm).2)), (20, .slice A83 ((readD D3 nm).1.length) c84), (21, errV ((readD D3 nm).2)), (85, .bool true), (87, .string (bs ((readD D3 nm).1))), (88, .slice Ap p.length cp)] (by kernel_rfl) ?_
      refine gl_q rfl rfl rfl (rd_str (e := 5) (by kernel_rfl) (by kernel_rfl) (by kernel_rfl) rfl (hp.mono hH.zin)) ?_
      refine gl_q rfl rfl rfl (rd_seql (by kernel_rfl) rfl rfl) ?_
      refine gl_ops 1 [(4, .bool false), (17, .slice A32 ((readD D1 nm).1.length) c33), (18, errV ((readD D1 nm).2)), (20, .slice A83 ((readD D3 nm).1.length) c84), (21, errV ((readD D3 nm).2)), (91, .bool (((readD D3 nm).1) == p))] (by kernel_rfl) ?_
      refine gl_done rfl ?_
      refine sw_next ?_
      refine sw_cond rfl rfl (fun hc13 => ?_) (fun hc13 => ?_)
      ·
        try simp only [decide_eq_true_eq, beq_iff_eq, bne_iff_ne, ne_eq, Bool.not_eq_true', beq_eq_false_iff_ne, bne_eq_false_iff_eq, decide_eq_false_iff_not, Int.not_lt, Int.not_le] at hc13
        refine sw_seq ?_
        refine sw_region ?_  -- R22 law.go:160
        refine gl_ops 1 [(12, .bool true)] (by kernel_rfl) ?_
        refine gl_done rfl ?_
        refine sw_next ?_
        refine sw_ret ?_
        refine thR ?_
        refine ret1 rfl rfl  ?_
        exact ⟨rfl, (hH.sublist (List.nil_sublist _)).fresh⟩
      try simp only [decide_eq_false_iff_not, beq_eq_false_iff_ne, bne_eq_false_iff_eq, ne_eq, Decidable.not_not, Int.not_lt, Int.not_le, Bool.not_eq_false', beq_iff_eq, bne_iff_ne, decide_eq_true_eq] at hc13
      have hne9 := hc13
      have hsec := hw2.resolve_left (fun h9 => hne9 (by rw [h9]))
      refine sw_skip ?_
      refine sw_next ?_
      refine sw_seq ?_
      refine sw_region ?_  -- R23 law.go:162
      refine gl_ops 16 [(12, .bool false)] (by kernel_rfl) ?_
      refine gl_done rfl ?_
      refine sw_next ?_
      refine sw_ret ?_
      refine ret1 rfl rfl  ?_
      exact absurd hsec.1 (by simp)
    try simp only [decide_eq_false_iff_not, beq_eq_false_iff_ne, bne_eq_false_iff_eq, ne_eq, Decidable.not_not, Int.not_lt, Int.not_le, Bool.not_eq_false', beq_iff_eq, bne_iff_ne, decide_eq_true_eq] at hg12
    have hg9 := hg12
    have hsec := hw2.resolve_left (fun h9 => hg9 (by rw [h9]))
    refine gl_ops 6 [(4, .bool false), (17, .slice A32 ((readD D1 nm).1.length) c33), (18, errV ((readD D1 nm).2)), (20, .slice A83 ((readD D3 nm).1.length) c84), (21, errV ((readD D3 nm).2)), (91, .bool false)] (by kernel_rfl) ?_
    refine gl_done rfl ?_
    refine sw_next ?_
    refine sw_false rfl rfl ?_
    refine sw_skip ?_
    refine sw_next ?_
    refine sw_seq ?_
    refine sw_region ?_  -- R23 law.go:162
    refine gl_ops 16 [(12, .bool false)] (by kernel_rfl) ?_
    refine gl_done rfl ?_
    refine sw_next ?_
    refine sw_ret ?_
    refine ret1 rfl rfl  ?_
    exact absurd hsec.1 (by simp)
  try simp only [decide_eq_false_iff_not, beq_eq_false_iff_ne, bne_eq_false_iff_eq, ne_eq, Decidable.not_not, Int.not_lt, Int.not_le, Bool.not_eq_false', beq_iff_eq, bne_iff_ne, decide_eq_true_eq] at hg2
  refine gl_ops 3 [(0, .slice Aa ac.length ca), (1, .string (bs nm)), (2, .slice Ap p.length cp), (3, .int .i64 pq), (4, .bool ct), (5, .slice Ak ks.length ck), (14, .pointer (some ⟨db3, 0, none⟩)), (15, .pointer (some ⟨xb7, 0, none⟩)), (16, .int .i64 ((i : Nat) : Int)), (38, .bool false)] (by kernel_rfl) ?_
  refine gl_done rfl ?_
  refine sw_next ?_
  refine sw_false rfl rfl ?_
  refine sw_exit ?_
  refine thX ?_
  refine thX ?_
  refine bkH ?_
  refine sw_next ?_
  refine sw_seq ?_
  refine sw_region ?_  -- R10 law.go:145
  obtain ⟨D1, h1⟩ : ∃ D1, D1 = startD D [] := ⟨_, rfl⟩
  refine gl_ops 1 [(1, .string (bs nm)), (2, .slice Ap p.length cp), (3, .int .i64 pq), (4, .bool ct), (5, .slice Ak ks.length ck), (14, .pointer (some ⟨db3, 0, none⟩)), (48, .pointer (some ⟨db3, 0, none⟩))] (by kernel_rfl) ?_
  replace hH : Hp w w10 _ _ ([.grp (dskO db3 mb4 ab D es)] ++ [.grp (rdkO xb7 rv (D).off (actsI (D).ar) part L)]) := hH
  refine gl_st (st_call rfl rfl rfl (by kernel_rfl) rfl (by have h9 := Start_ct db3 mb4 ab D es (.slice none 0 0) [] _ _ hH.mine (Row.nil _ _) hI.rep hI.good (by omega) (by have := hI.len; omega); rw [← h1] at h9; exact h9) ?_)
  rintro _ w89 ⟨es87, rfl, hR88, hF90⟩
  replace hH := hH.turns hF90; clear hF90
  replace hH : Hp w w89 _ _ [.grp (rdkO xb7 rv (D).off (actsI (D).ar) part L), .grp (dskO db3 mb4 ab D1 es87)] := hH
  have hG1 : Good D1.fs (sumB (ac.take i)) := by rw [h1]; exact good_start hI.good []
  have hA1 : ArOk D1.ar := by rw [h1]; intro a p e; cases e
  have hN1 : D1.fs.length ≤ i := by rw [h1]; show (startF D.fs []).length ≤ i; unfold startF; rw [List.length_mapIdx]; exact hI.len
  refine gl_done rfl ?_
  refine sw_next ?_
  refine sw_seq ?_
  refine sw_region ?_  -- R11 law.go:146
  refine gl_ops 2 [(1, .string (bs nm)), (2, .slice Ap p.length cp), (3, .int .i64 pq), (4, .bool ct), (5, .slice Ak ks.length ck), (14, .pointer (some ⟨db3, 0, none⟩)), (51, .pointer (some ⟨db3, 0, none⟩)), (52, .string (bs nm))] (by kernel_rfl) ?_
  replace hH : Hp w w89 _ _ [.grp (rdkO xb7 rv (D).off (actsI (D).ar) part L), .grp (dskO db3 mb4 ab D1 es87)] := hH
  replace hH := hH.pick [1, 0] (by kernel_rfl) (os' := [.grp (dskO db3 mb4 ab D1 es87), .grp (rdkO xb7 rv (D).off (actsI (D).ar) part L)]) (by kernel_rfl)
  replace hH : Hp w w89 _ _ ([.grp (dskO db3 mb4 ab D1 es87)] ++ [.grp (rdkO xb7 rv (D).off (actsI (D).ar) part L)]) := hH
  refine gl_st (st_call rfl rfl rfl (by kernel_rfl) rfl (Read_ct db3 mb4 ab D1 es87 nm _ _ hH.mine hR88 hA1 hG1 (by omega) hs) ?_)
  rintro _ w93 ⟨v91, rfl, hF94⟩
  replace hH := hH.turns hF94; clear hF94
  replace hH : Hp w w93 _ _ [.grp (rdkO xb7 rv (D).off (actsI (D).ar) part L), .grp (dskO db3 mb4 ab D1 es87), .row _ 5 1 ((readD D1 nm).1.length) (bv (readD D1 nm).1)] := hH
  obtain ⟨A95, c96, rfl, hl97, hm98⟩ := hH.row_form 2 rfl
  refine gl_ops 5 [(1, .string (bs nm)), (2, .slice Ap p.length cp), (3, .int .i64 pq), (4, .bool ct), (5, .slice Ak ks.length ck), (14, .pointer (some ⟨db3, 0, none⟩)), (17, .slice A95 ((readD D1 nm).1.length) c96), (18, errV ((readD D1 nm).2))] (by kernel_rfl) ?_
  refine gl_done rfl ?_
  refine sw_next ?_
  refine sw_seq ?_
  refine sw_seq ?_
  refine sw_region ?_  -- R12 law.go:147
  refine gl_ops 1 [(1, .string (bs nm)), (2, .slice Ap p.length cp), (3, .int .i64 pq), (4, .bool ct), (5, .slice Ak ks.length ck), (14, .pointer (some ⟨db3, 0, none⟩)), (17, .slice A95 ((readD D1 nm).1.length) c96), (18, errV ((readD D1 nm).2)), (56, .bool ct)] (by kernel_rfl) ?_
  refine gl_done rfl ?_
  refine sw_next ?_
  refine sw_cond rfl rfl (fun hc16 => ?_) (fun hc16 => ?_)
  ·
    try simp only [decide_eq_true_eq, beq_iff_eq, bne_iff_ne, ne_eq, Bool.not_eq_true', beq_eq_false_iff_ne, bne_eq_false_iff_eq, decide_eq_false_iff_not, Int.not_lt, Int.not_le] at hc16
    subst hc16
    refine sw_region ?_  -- R13 law.go:148
    refine gl_ops 2 [(1, .string (bs nm)), (2, .slice Ap p.length cp), (4, .bool true), (5, .slice Ak ks.length ck), (14, .pointer (some ⟨db3, 0, none⟩)), (17, .slice A95 ((readD D1 nm).1.length) c96), (18, errV ((readD D1 nm).2)), (57, .pointer (some ⟨db3, 0, none⟩)), (58, .int .i64 pq)] (by kernel_rfl) ?_
    replace hH : Hp w w93 _ _ [.grp (rdkO xb7 rv (D).off (actsI (D).ar) part L), .grp (dskO db3 mb4 ab D1 es87), .row (.slice A95 ((readD D1 nm).1.length) c96) 5 1 ((readD D1 nm).1.length) (bv (readD D1 nm).1)] := hH
    replace hH := hH.pick [1, 0, 2] (by kernel_rfl) (os' := [.grp (dskO db3 mb4 ab D1 es87), .grp (rdkO xb7 rv (D).off (actsI (D).ar) part L), .row (.slice A95 ((readD D1 nm).1.length) c96) 5 1 ((readD D1 nm).1.length) (bv (readD D1 nm).1)]) (by kernel_rfl)
    replace hH : Hp w w93 _ _ ([.grp (dskO db3 mb4 ab D1 es87)] ++ [.grp (rdkO xb7 rv (D).off (actsI (D).ar) part L), .row (.slice A95 ((readD D1 nm).1.length) c96) 5 1 ((readD D1 nm).1.length) (bv (readD D1 nm).1)]) := hH
    refine gl_st (st_call rfl rfl rfl (by kernel_rfl) rfl (Arm_ct db3 mb4 ab D1 es87 0 pq _ hH.mine) ?_)
    rintro _ w100 ⟨ab99, rfl, hF101⟩
    replace hH := hH.turns hF101; clear hF101
    replace hH : Hp w w100 _ _ [.grp (rdkO xb7 rv (D).off (actsI (D).ar) part L), .row (.slice A95 ((readD D1 nm).1.length) c96) 5 1 ((readD D1 nm).1.length) (bv (readD D1 nm).1), .grp (dskO db3 mb4 ab99 (armD D1 0 pq) es87)] := hH
    refine gl_done rfl ?_
    refine sw_next ?_
    refine sw_seq ?_
    refine sw_region ?_  -- R14 law.go:150
    obtain ⟨R, hR⟩ : ∃ R, R = doD (armD D1 0 pq) 2 nm p 0 := ⟨_, rfl⟩
    obtain ⟨D3, h3⟩ : ∃ D3, D3 = startD R.1 ks := ⟨_, rfl⟩
    have hW := whole_put (cut := true) (part := pq) hI.good h1 (if_pos rfl).symm hR h3
    refine gl_ops 3 [(1, .string (bs nm)), (2, .slice Ap p.length cp), (4, .bool true), (5, .slice Ak ks.length ck), (14, .pointer (some ⟨db3, 0, none⟩)), (17, .slice A95 ((readD D1 nm).1.length) c96), (18, errV ((readD D1 nm).2)), (60, .pointer (some ⟨db3, 0, none⟩)), (61, .string (bs nm)), (62, .slice Ap p.length cp)] (by kernel_rfl) ?_
    replace hH : Hp w w100 _ _ [.grp (rdkO xb7 rv (D).off (actsI (D).ar) part L), .row (.slice A95 ((readD D1 nm).1.length) c96) 5 1 ((readD D1 nm).1.length) (bv (readD D1 nm).1), .grp (dskO db3 mb4 ab99 (armD D1 0 pq) es87)] := hH
    replace hH := hH.pick [2, 0, 1] (by kernel_rfl) (os' := [.grp (dskO db3 mb4 ab99 (armD D1 0 pq) es87), .grp (rdkO xb7 rv (D).off (actsI (D).ar) part L), .row (.slice A95 ((readD D1 nm).1.length) c96) 5 1 ((readD D1 nm).1.length) (bv (readD D1 nm).1)]) (by kernel_rfl)
    replace hH : Hp w w100 _ _ ([.grp (dskO db3 mb4 ab99 (armD D1 0 pq) es87)] ++ [.grp (rdkO xb7 rv (D).off (actsI (D).ar) part L), .row (.slice A95 ((readD D1 nm).1.length) c96) 5 1 ((readD D1 nm).1.length) (bv (readD D1 nm).1)]) := hH
    refine gl_st (st_call rfl rfl rfl (by kernel_rfl) rfl (by have h9 := Put_ct db3 mb4 ab99 (armD D1 0 pq) es87 nm _ p _ _ hH.mine hR88 (arOk_arm 0 pq (by omega) D1) (show Good ((armD D1 0 pq)).fs _ from hG1) (by omega) hs (hp.mono hH.zoff) (by omega); rw [← hR] at h9; exact h9) ?_)
    rintro _ w104 ⟨es102, rfl, hR103, hF105⟩
    replace hH := hH.turns hF105; clear hF105
    replace hH : Hp w w104 _ _ [.grp (rdkO xb7 rv (D).off (actsI (D).ar) part L), .row (.slice A95 ((readD D1 nm).1.length) c96) 5 1 ((readD D1 nm).1.length) (bv (readD D1 nm).1), .grp (dskO db3 mb4 ab99 R.1 es102)] := hH
    have hGR : Good R.1.fs (sumB (ac.take i) + p.length) := by rw [hR]; exact good_doD (show Good ((armD D1 0 pq)).fs _ from hG1) _ _ _ _
    have hNR : R.1.fs.length ≤ i + 1 := by rw [hR]; exact Nat.le_trans (len_doD _ _ _ _ _) (by show D1.fs.length + 1 ≤ i + 1; omega)
    refine gl_ops 1 [(1, .string (bs nm)), (2, .slice Ap p.length cp), (4, .bool true), (5, .slice Ak ks.length ck), (14, .pointer (some ⟨db3, 0, none⟩)), (17, .slice A95 ((readD D1 nm).1.length) c96), (18, errV ((readD D1 nm).2)), (19, errV R.2)] (by kernel_rfl) ?_
    refine gl_done rfl ?_
    refine sw_next ?_
    refine sw_seq ?_
    refine sw_seq ?_
    refine sw_region ?_  -- R15 law.go:151
    refine gl_ops 1 [(1, .string (bs nm)), (2, .slice Ap p.length cp), (4, .bool true), (5, .slice Ak ks.length ck), (14, .pointer (some ⟨db3, 0, none⟩)), (17, .slice A95 ((readD D1 nm).1.length) c96), (18, errV ((readD D1 nm).2)), (19, errV R.2), (64, errV R.2)] (by kernel_rfl) ?_
    refine gl_st (st_call rfl rfl rfl (by kernel_rfl) rfl (Code_ct R.2 _ (hH.zin _ _ hG)) ?_)
    rintro _ w106 ⟨rfl, hF107⟩
    replace hH := hH.call hF107; clear hF107
    refine gl_ops 1 [(1, .string (bs nm)), (2, .slice Ap p.length cp), (4, .bool true), (5, .slice Ak ks.length ck), (14, .pointer (some ⟨db3, 0, none⟩)), (17, .slice A95 ((readD D1 nm).1.length) c96), (18, errV ((readD D1 nm).2)), (19, errV R.2), (66, .bool (((R.2 : Nat) : Int) == (1 : Int)))] (by kernel_rfl) ?_
    refine gl_done rfl ?_
    refine sw_next ?_
    refine sw_cond rfl rfl (fun hc17 => ?_) (fun hc17 => ?_)
    ·
      try simp only [decide_eq_true_eq, beq_iff_eq, bne_iff_ne, ne_eq, Bool.not_eq_true', beq_eq_false_iff_ne, bne_eq_false_iff_eq, decide_eq_false_iff_not, Int.not_lt, Int.not_le] at hc17
      have hR1 : R.2 = 1 := by omega
      refine sw_seq ?_
      refine sw_region ?_  -- R16 law.go:152
      refine gl_ops 1 [(67, errV ((readD D1 nm).2))] (by kernel_rfl) ?_
      refine gl_st (st_call rfl rfl rfl (by kernel_rfl) rfl (Code_ct ((readD D1 nm).2) _ (hH.zin _ _ hG)) ?_)
      rintro _ w108 ⟨rfl, hF109⟩
      replace hH := hH.call hF109; clear hF109
      refine gl_ops 1 [(69, .bool ((((readD D1 nm).2 : Nat) : Int) == (1 : Int)))] (by kernel_rfl) ?_
      refine gl_cv 69 (.bool true) (by rcases hW with ⟨_, h9⟩ | ⟨h9, _⟩; (rw [h9]; rfl); (exfalso; rw [hR1] at h9; simp at h9)) rfl ?_
      refine gl_ops 1 [(12, .bool true)] (by kernel_rfl) ?_
      refine gl_done rfl ?_
      refine sw_next ?_
      refine sw_ret ?_
      refine thR ?_
      refine ret1 rfl rfl  ?_
      exact ⟨rfl, (hH.sublist (List.nil_sublist _)).fresh⟩
    try simp only [decide_eq_false_iff_not, beq_eq_false_iff_ne, bne_eq_false_iff_eq, ne_eq, Decidable.not_not, Int.not_lt, Int.not_le, Bool.not_eq_false', beq_iff_eq, bne_iff_ne, decide_eq_true_eq] at hc17
    have hne1 : ¬ R.2 = 1 := by omega
    have hW2 := hW.resolve_left (fun h9 => hne1 h9.1)
    obtain ⟨hw1, hw2⟩ := hW2
    refine sw_skip ?_
    refine sw_next ?_
    refine sw_seq ?_
    refine sw_seq ?_
    refine sw_region ?_  -- R17 law.go:154
    refine gl_ops 1 [(1, .string (bs nm)), (2, .slice Ap p.length cp), (4, .bool true), (5, .slice Ak ks.length ck), (14, .pointer (some ⟨db3, 0, none⟩)), (17, .slice A95 ((readD D1 nm).1.length) c96), (18, errV ((readD D1 nm).2)), (70, errV R.2)] (by kernel_rfl) ?_
    refine gl_q rfl rfl rfl (rd_err_eq (by kernel_rfl) rfl) ?_
    refine gl_ops 2 [(1, .string (bs nm)), (2, .slice Ap p.length cp), (4, .bool true), (5, .slice Ak ks.length ck), (14, .pointer (some ⟨db3, 0, none⟩)), (17, .slice A95 ((readD D1 nm).1.length) c96), (18, errV ((readD D1 nm).2)), (73, .bool ((R.2 == 0) == true))] (by kernel_rfl) ?_
    refine gl_cv 73 (.bool false) (by rw [hw1]; rfl) rfl ?_
    refine gl_done rfl ?_
    refine sw_next ?_
    refine sw_false rfl rfl ?_
    refine sw_skip ?_
    refine sw_next ?_
    refine sw_seq ?_
    refine sw_region ?_  -- R19 law.go:157
    refine gl_ops 2 [(1, .string (bs nm)), (2, .slice Ap p.length cp), (4, .bool true), (14, .pointer (some ⟨db3, 0, none⟩)), (17, .slice A95 ((readD D1 nm).1.length) c96), (18, errV ((readD D1 nm).2)), (74, .pointer (some ⟨db3, 0, none⟩)), (75, .slice Ak ks.length ck)] (by kernel_rfl) ?_
    replace hH : Hp w w106 _ _ [.grp (rdkO xb7 rv (D).off (actsI (D).ar) part L), .row (.slice A95 ((readD D1 nm).1.length) c96) 5 1 ((readD D1 nm).1.length) (bv (readD D1 nm).1), .grp (dskO db3 mb4 ab99 R.1 es102)] := hH
    replace hH := hH.pick [2, 0, 1] (by kernel_rfl) (os' := [.grp (dskO db3 mb4 ab99 R.1 es102), .grp (rdkO xb7 rv (D).off (actsI (D).ar) part L), .row (.slice A95 ((readD D1 nm).1.length) c96) 5 1 ((readD D1 nm).1.length) (bv (readD D1 nm).1)]) (by kernel_rfl)
    replace hH : Hp w w106 _ _ ([.grp (dskO db3 mb4 ab99 R.1 es102)] ++ [.grp (rdkO xb7 rv (D).off (actsI (D).ar) part L), .row (.slice A95 ((readD D1 nm).1.length) c96) 5 1 ((readD D1 nm).1.length) (bv (readD D1 nm).1)]) := hH
    refine gl_st (st_call rfl rfl rfl (by kernel_rfl) rfl (by have h9 := Start_ct db3 mb4 ab99 R.1 es102 _ ks _ _ hH.mine (hk.mono hH.zoff) hR103 hGR (by omega) (by omega); rw [← h3] at h9; exact h9) ?_)
    rintro _ w112 ⟨es110, rfl, hR111, hF113⟩
    replace hH := hH.turns hF113; clear hF113
    replace hH : Hp w w112 _ _ [.grp (rdkO xb7 rv (D).off (actsI (D).ar) part L), .row (.slice A95 ((readD D1 nm).1.length) c96) 5 1 ((readD D1 nm).1.length) (bv (readD D1 nm).1), .grp (dskO db3 mb4 ab99 D3 es110)] := hH
    have hG3 : Good D3.fs (sumB (ac.take i) + p.length) := by rw [h3]; exact good_start hGR ks
    have hA3 : ArOk D3.ar := by rw [h3]; intro a p e; cases e
    refine gl_done rfl ?_
    refine sw_next ?_
    refine sw_seq ?_
    refine sw_region ?_  -- R20 law.go:158
    refine gl_ops 2 [(2, .slice Ap p.length cp), (4, .bool true), (17, .slice A95 ((readD D1 nm).1.length) c96), (18, errV ((readD D1 nm).2)), (78, .pointer (some ⟨db3, 0, none⟩)), (79, .string (bs nm))] (by kernel_rfl) ?_
    replace hH : Hp w w112 _ _ [.grp (rdkO xb7 rv (D).off (actsI (D).ar) part L), .row (.slice A95 ((readD D1 nm).1.length) c96) 5 1 ((readD D1 nm).1.length) (bv (readD D1 nm).1), .grp (dskO db3 mb4 ab99 D3 es110)] := hH
    replace hH := hH.pick [2, 0, 1] (by kernel_rfl) (os' := [.grp (dskO db3 mb4 ab99 D3 es110), .grp (rdkO xb7 rv (D).off (actsI (D).ar) part L), .row (.slice A95 ((readD D1 nm).1.length) c96) 5 1 ((readD D1 nm).1.length) (bv (readD D1 nm).1)]) (by kernel_rfl)
    replace hH : Hp w w112 _ _ ([.grp (dskO db3 mb4 ab99 D3 es110)] ++ [.grp (rdkO xb7 rv (D).off (actsI (D).ar) part L), .row (.slice A95 ((readD D1 nm).1.length) c96) 5 1 ((readD D1 nm).1.length) (bv (readD D1 nm).1)]) := hH
    refine gl_st (st_call rfl rfl rfl (by kernel_rfl) rfl (Read_ct db3 mb4 ab99 D3 es110 nm _ _ hH.mine hR111 hA3 hG3 (by omega) hs) ?_)
    rintro _ w116 ⟨v114, rfl, hF117⟩
    replace hH := hH.turns hF117; clear hF117
    replace hH : Hp w w116 _ _ [.grp (rdkO xb7 rv (D).off (actsI (D).ar) part L), .row (.slice A95 ((readD D1 nm).1.length) c96) 5 1 ((readD D1 nm).1.length) (bv (readD D1 nm).1), .grp (dskO db3 mb4 ab99 D3 es110), .row _ 5 1 ((readD D3 nm).1.length) (bv (readD D3 nm).1)] := hH
    obtain ⟨A118, c119, rfl, hl120, hm121⟩ := hH.row_form 3 rfl
    refine gl_ops 5 [(2, .slice Ap p.length cp), (4, .bool true), (17, .slice A95 ((readD D1 nm).1.length) c96), (18, errV ((readD D1 nm).2)), (20, .slice A118 ((readD D3 nm).1.length) c119), (21, errV ((readD D3 nm).2))] (by kernel_rfl) ?_
    refine gl_done rfl ?_
    refine sw_next ?_
    refine sw_seq ?_
    refine sw_seq ?_
    refine sw_region ?_  -- R21 law.go:159
    refine gl_ops 1 [(2, .slice Ap p.length cp), (4, .bool true), (17, .slice A95 ((readD D1 nm).1.length) c96), (18, errV ((readD D1 nm).2)), (20, .slice A118 ((readD D3 nm).1.length) c119), (21, errV ((readD D3 nm).2)), (83, errV ((readD D3 nm).2))] (by kernel_rfl) ?_
    refine gl_q rfl rfl rfl (rd_err_eq (by kernel_rfl) rfl) ?_
    refine gl_ops 1 [(2, .slice Ap p.length cp), (4, .bool true), (17, .slice A95 ((readD D1 nm).1.length) c96), (18, errV ((readD D1 nm).2)), (20, .slice A118 ((readD D3 nm).1.length) c119), (21, errV ((readD D3 nm).2)), (85, .bool (((readD D3 nm).2) == 0))] (by kernel_rfl) ?_
    refine gl_split 85 (b := ((readD D3 nm).2) == 0) rfl (fun hg19 => ?_) (fun hg19 => ?_)
    ·
      try simp only [decide_eq_true_eq, beq_iff_eq, bne_iff_ne, ne_eq, Bool.not_eq_true', beq_eq_false_iff_ne, bne_eq_false_iff_eq, decide_eq_false_iff_not, Int.not_lt, Int.not_le] at hg19
      refine gl_ops 1 [(2, .slice Ap p.length cp), (4, .bool true), (17, .slice A95 ((readD D1 nm).1.length) c96), (18, errV ((readD D1 nm).2)), (20, .slice A118 ((readD D3 nm).1.length) c119), (21, errV ((readD D3 nm).2)), (85, .bool true), (86, .slice A118 ((readD D3 nm).1.length) c119)] (by kernel_rfl) ?_
      refine gl_q rfl rfl rfl (rd_str (e := 5) (by kernel_rfl) (by kernel_rfl) (by kernel_rfl) rfl (rb_own hH 3 rfl)) ?_
      refine gl_ops 1 [(4, .bool true), (17, .slice A95 ((readD D1 nm).1.length) c96), (18, errV ((readD D1 nm).2)), (20, .slice A118 ((readD D3 nm).1.length) c119), (21, errV ((readD D3 nm).2)), (85, .bool true), (87, .string (bs ((readD D3 nm).1))), (88, .slice Ap p.length cp)] (by kernel_rfl) ?_
      refine gl_q rfl rfl rfl (rd_str (e := 5) (by kernel_rfl) (by kernel_rfl) (by kernel_rfl) rfl (hp.mono hH.zin)) ?_
      refine gl_q rfl rfl rfl (rd_seql (by kernel_rfl) rfl rfl) ?_
      refine gl_ops 1 [(4, .bool true), (17, .slice A95 ((readD D1 nm).1.length) c96), (18, errV ((readD D1 nm).2)), (20, .slice A118 ((readD D3 nm).1.length) c119), (21, errV ((readD D3 nm).2)), (91, .bool (((readD D3 nm).1) == p))] (by kernel_rfl) ?_
      refine gl_done rfl ?_
      refine sw_next ?_
      refine sw_cond rfl rfl (fun hc20 => ?_) (fun hc20 => ?_)
      ·
        try simp only [decide_eq_true_eq, beq_iff_eq, bne_iff_ne, ne_eq, Bool.not_eq_true', beq_eq_false_iff_ne, bne_eq_false_iff_eq, decide_eq_false_iff_not, Int.not_lt, Int.not_le] at hc20
        refine sw_seq ?_
        refine sw_region ?_  -- R22 law.go:160
        refine gl_ops 1 [(12, .bool true)] (by kernel_rfl) ?_
        refine gl_done rfl ?_
        refine sw_next ?_
        refine sw_ret ?_
        refine thR ?_
        refine ret1 rfl rfl  ?_
        exact ⟨rfl, (hH.sublist (List.nil_sublist _)).fresh⟩
      try simp only [decide_eq_false_iff_not, beq_eq_false_iff_ne, bne_eq_false_iff_eq, ne_eq, Decidable.not_not, Int.not_lt, Int.not_le, Bool.not_eq_false', beq_iff_eq, bne_iff_ne, decide_eq_true_eq] at hc20
      have hne9 := hc20
      have hsec := hw2.resolve_left (fun h9 => hne9 (by rw [h9]))
      refine sw_skip ?_
      refine sw_next ?_
      refine sw_seq ?_
      refine sw_region ?_  -- R23 law.go:162
      refine gl_ops 3 [(17, .slice A95 ((readD D1 nm).1.length) c96), (20, .slice A118 ((readD D3 nm).1.length) c119), (21, errV ((readD D3 nm).2)), (93, .bool true), (94, errV ((readD D1 nm).2))] (by kernel_rfl) ?_
      refine gl_st (st_call rfl rfl rfl (by kernel_rfl) rfl (Code_ct ((readD D1 nm).2) _ (hH.zin _ _ hG)) ?_)
      rintro _ w122 ⟨rfl, hF123⟩
      replace hH := hH.call hF123; clear hF123
      refine gl_ops 1 [(17, .slice A95 ((readD D1 nm).1.length) c96), (20, .slice A118 ((readD D3 nm).1.length) c119), (93, .bool true), (95, .int .i64 (((readD D1 nm).2 : Nat) : Int)), (96, errV ((readD D3 nm).2))] (by kernel_rfl) ?_
      refine gl_st (st_call rfl rfl rfl (by kernel_rfl) rfl (Code_ct ((readD D3 nm).2) _ (hH.zin _ _ hG)) ?_)
      rintro _ w124 ⟨rfl, hF125⟩
      replace hH := hH.call hF125; clear hF125
      refine gl_ops 1 [(17, .slice A95 ((readD D1 nm).1.length) c96), (20, .slice A118 ((readD D3 nm).1.length) c119), (93, .bool true), (98, .bool ((((readD D1 nm).2 : Nat) : Int) == (((readD D3 nm).2 : Nat) : Int)))] (by kernel_rfl) ?_
      refine gl_cv 98 (.bool true) (by rw [hsec.2]; simp) rfl ?_
      refine gl_ops 3 [(20, .slice A118 ((readD D3 nm).1.length) c119), (100, .bool true), (101, .slice A95 ((readD D1 nm).1.length) c96)] (by kernel_rfl) ?_
      refine gl_q rfl rfl rfl (rd_str (e := 5) (by kernel_rfl) (by kernel_rfl) (by kernel_rfl) rfl (rb_own hH 1 rfl)) ?_
      refine gl_ops 1 [(100, .bool true), (102, .string (bs ((readD D1 nm).1))), (103, .slice A118 ((readD D3 nm).1.length) c119)] (by kernel_rfl) ?_
      refine gl_q rfl rfl rfl (rd_str (e := 5) (by kernel_rfl) (by kernel_rfl) (by kernel_rfl) rfl (rb_own hH 3 rfl)) ?_
      refine gl_q rfl rfl rfl (rd_seql (by kernel_rfl) rfl rfl) ?_
      refine gl_cv 105 (.bool true) (by rw [hsec.2]; simp) rfl ?_
      refine gl_ops 2 [(12, .bool true)] (by kernel_rfl) ?_
      refine gl_done rfl ?_
      refine sw_next ?_
      refine sw_ret ?_
      refine ret1 rfl rfl  ?_
      exact ⟨rfl, (hH.sublist (List.nil_sublist _)).fresh⟩
    try simp only [decide_eq_false_iff_not, beq_eq_false_iff_ne, bne_eq_false_iff_eq, ne_eq, Decidable.not_not, Int.not_lt, Int.not_le, Bool.not_eq_false', beq_iff_eq, bne_iff_ne, decide_eq_true_eq] at hg19
    have hg9 := hg19
    have hsec := hw2.resolve_left (fun h9 => hg9 (by rw [h9]))
    refine gl_ops 6 [(4, .bool true), (17, .slice A95 ((readD D1 nm).1.length) c96), (18, errV ((readD D1 nm).2)), (20, .slice A118 ((readD D3 nm).1.length) c119), (21, errV ((readD D3 nm).2)), (91, .bool false)] (by kernel_rfl) ?_
    refine gl_done rfl ?_
    refine sw_next ?_
    refine sw_false rfl rfl ?_
    refine sw_skip ?_
    refine sw_next ?_
    refine sw_seq ?_
    refine sw_region ?_  -- R23 law.go:162
    refine gl_ops 3 [(17, .slice A95 ((readD D1 nm).1.length) c96), (20, .slice A118 ((readD D3 nm).1.length) c119), (21, errV ((readD D3 nm).2)), (93, .bool true), (94, errV ((readD D1 nm).2))] (by kernel_rfl) ?_
    refine gl_st (st_call rfl rfl rfl (by kernel_rfl) rfl (Code_ct ((readD D1 nm).2) _ (hH.zin _ _ hG)) ?_)
    rintro _ w126 ⟨rfl, hF127⟩
    replace hH := hH.call hF127; clear hF127
    refine gl_ops 1 [(17, .slice A95 ((readD D1 nm).1.length) c96), (20, .slice A118 ((readD D3 nm).1.length) c119), (93, .bool true), (95, .int .i64 (((readD D1 nm).2 : Nat) : Int)), (96, errV ((readD D3 nm).2))] (by kernel_rfl) ?_
    refine gl_st (st_call rfl rfl rfl (by kernel_rfl) rfl (Code_ct ((readD D3 nm).2) _ (hH.zin _ _ hG)) ?_)
    rintro _ w128 ⟨rfl, hF129⟩
    replace hH := hH.call hF129; clear hF129
    refine gl_ops 1 [(17, .slice A95 ((readD D1 nm).1.length) c96), (20, .slice A118 ((readD D3 nm).1.length) c119), (93, .bool true), (98, .bool ((((readD D1 nm).2 : Nat) : Int) == (((readD D3 nm).2 : Nat) : Int)))] (by kernel_rfl) ?_
    refine gl_cv 98 (.bool true) (by rw [hsec.2]; simp) rfl ?_
    refine gl_ops 3 [(20, .slice A118 ((readD D3 nm).1.length) c119), (100, .bool true), (101, .slice A95 ((readD D1 nm).1.length) c96)] (by kernel_rfl) ?_
    refine gl_q rfl rfl rfl (rd_str (e := 5) (by kernel_rfl) (by kernel_rfl) (by kernel_rfl) rfl (rb_own hH 1 rfl)) ?_
    refine gl_ops 1 [(100, .bool true), (102, .string (bs ((readD D1 nm).1))), (103, .slice A118 ((readD D3 nm).1.length) c119)] (by kernel_rfl) ?_
    refine gl_q rfl rfl rfl (rd_str (e := 5) (by kernel_rfl) (by kernel_rfl) (by kernel_rfl) rfl (rb_own hH 3 rfl)) ?_
    refine gl_q rfl rfl rfl (rd_seql (by kernel_rfl) rfl rfl) ?_
    refine gl_cv 105 (.bool true) (by rw [hsec.2]; simp) rfl ?_
    refine gl_ops 2 [(12, .bool true)] (by kernel_rfl) ?_
    refine gl_done rfl ?_
    refine sw_next ?_
    refine sw_ret ?_
    refine ret1 rfl rfl  ?_
    exact ⟨rfl, (hH.sublist (List.nil_sublist _)).fresh⟩
  try simp only [decide_eq_false_iff_not, beq_eq_false_iff_ne, bne_eq_false_iff_eq, ne_eq, Decidable.not_not, Int.not_lt, Int.not_le, Bool.not_eq_false', beq_iff_eq, bne_iff_ne, decide_eq_true_eq] at hc16
  subst hc16
  refine sw_skip ?_
  refine sw_next ?_
  refine sw_seq ?_
  refine sw_region ?_  -- R14 law.go:150
  obtain ⟨R, hR⟩ : ∃ R, R = doD D1 2 nm p 0 := ⟨_, rfl⟩
  obtain ⟨D3, h3⟩ : ∃ D3, D3 = startD R.1 ks := ⟨_, rfl⟩
  have hW := whole_put (cut := false) (part := pq) hI.good h1 (if_neg (by simp)).symm hR h3
  refine gl_ops 3 [(1, .string (bs nm)), (2, .slice Ap p.length cp), (4, .bool false), (5, .slice Ak ks.length ck), (14, .pointer (some ⟨db3, 0, none⟩)), (17, .slice A95 ((readD D1 nm).1.length) c96), (18, errV ((readD D1 nm).2)), (60, .pointer (some ⟨db3, 0, none⟩)), (61, .string (bs nm)), (62, .slice Ap p.length cp)] (by kernel_rfl) ?_
  replace hH : Hp w w93 _ _ [.grp (rdkO xb7 rv (D).off (actsI (D).ar) part L), .grp (dskO db3 mb4 ab D1 es87), .row (.slice A95 ((readD D1 nm).1.length) c96) 5 1 ((readD D1 nm).1.length) (bv (readD D1 nm).1)] := hH
  replace hH := hH.pick [1, 0, 2] (by kernel_rfl) (os' := [.grp (dskO db3 mb4 ab D1 es87), .grp (rdkO xb7 rv (D).off (actsI (D).ar) part L), .row (.slice A95 ((readD D1 nm).1.length) c96) 5 1 ((readD D1 nm).1.length) (bv (readD D1 nm).1)]) (by kernel_rfl)
  replace hH : Hp w w93 _ _ ([.grp (dskO db3 mb4 ab D1 es87)] ++ [.grp (rdkO xb7 rv (D).off (actsI (D).ar) part L), .row (.slice A95 ((readD D1 nm).1.length) c96) 5 1 ((readD D1 nm).1.length) (bv (readD D1 nm).1)]) := hH
  refine gl_st (st_call rfl rfl rfl (by kernel_rfl) rfl (by have h9 := Put_ct db3 mb4 ab D1 es87 nm _ p _ _ hH.mine hR88 hA1 (show Good (D1).fs _ from hG1) (by omega) hs (hp.mono hH.zoff) (by omega); rw [← hR] at h9; exact h9) ?_)
  rintro _ w132 ⟨es130, rfl, hR131, hF133⟩
  replace hH := hH.turns hF133; clear hF133
  replace hH : Hp w w132 _ _ [.grp (rdkO xb7 rv (D).off (actsI (D).ar) part L), .row (.slice A95 ((readD D1 nm).1.length) c96) 5 1 ((readD D1 nm).1.length) (bv (readD D1 nm).1), .grp (dskO db3 mb4 ab R.1 es130)] := hH
  have hGR : Good R.1.fs (sumB (ac.take i) + p.length) := by rw [hR]; exact good_doD (show Good (D1).fs _ from hG1) _ _ _ _
  have hNR : R.1.fs.length ≤ i + 1 := by rw [hR]; exact Nat.le_trans (len_doD _ _ _ _ _) (by show D1.fs.length + 1 ≤ i + 1; omega)
  refine gl_ops 1 [(1, .string (bs nm)), (2, .slice Ap p.length cp), (4, .bool false), (5, .slice Ak ks.length ck), (14, .pointer (some ⟨db3, 0, none⟩)), (17, .slice A95 ((readD D1 nm).1.length) c96), (18, errV ((readD D1 nm).2)), (19, errV R.2)] (by kernel_rfl) ?_
  refine gl_done rfl ?_
  refine sw_next ?_
  refine sw_seq ?_
  refine sw_seq ?_
  refine sw_region ?_  -- R15 law.go:151
  refine gl_ops 1 [(1, .string (bs nm)), (2, .slice Ap p.length cp), (4, .bool false), (5, .slice Ak ks.length ck), (14, .pointer (some ⟨db3, 0, none⟩)), (17, .slice A95 ((readD D1 nm).1.length) c96), (18, errV ((readD D1 nm).2)), (19, errV R.2), (64, errV R.2)] (by kernel_rfl) ?_
  refine gl_st (st_call rfl rfl rfl (by kernel_rfl) rfl (Code_ct R.2 _ (hH.zin _ _ hG)) ?_)
  rintro _ w134 ⟨rfl, hF135⟩
  replace hH := hH.call hF135; clear hF135
  refine gl_ops 1 [(1, .string (bs nm)), (2, .slice Ap p.length cp), (4, .bool false), (5, .slice Ak ks.length ck), (14, .pointer (some ⟨db3, 0, none⟩)), (17, .slice A95 ((readD D1 nm).1.length) c96), (18, errV ((readD D1 nm).2)), (19, errV R.2), (66, .bool (((R.2 : Nat) : Int) == (1 : Int)))] (by kernel_rfl) ?_
  refine gl_done rfl ?_
  refine sw_next ?_
  refine sw_cond rfl rfl (fun hc22 => ?_) (fun hc22 => ?_)
  ·
    try simp only [decide_eq_true_eq, beq_iff_eq, bne_iff_ne, ne_eq, Bool.not_eq_true', beq_eq_false_iff_ne, bne_eq_false_iff_eq, decide_eq_false_iff_not, Int.not_lt, Int.not_le] at hc22
    have hR1 : R.2 = 1 := by omega
    refine sw_seq ?_
    refine sw_region ?_  -- R16 law.go:152
    refine gl_ops 1 [(67, errV ((readD D1 nm).2))] (by kernel_rfl) ?_
    refine gl_st (st_call rfl rfl rfl (by kernel_rfl) rfl (Code_ct ((readD D1 nm).2) _ (hH.zin _ _ hG)) ?_)
    rintro _ w136 ⟨rfl, hF137⟩
    replace hH := hH.call hF137; clear hF137
    refine gl_ops 1 [(69, .bool ((((readD D1 nm).2 : Nat) : Int) == (1 : Int)))] (by kernel_rfl) ?_
    refine gl_cv 69 (.bool true) (by rcases hW with ⟨_, h9⟩ | ⟨h9, _⟩; (rw [h9]; rfl); (exfalso; rw [hR1] at h9; simp at h9)) rfl ?_
    refine gl_ops 1 [(12, .bool true)] (by kernel_rfl) ?_
    refine gl_done rfl ?_
    refine sw_next ?_
    refine sw_ret ?_
    refine thR ?_
    refine ret1 rfl rfl  ?_
    exact ⟨rfl, (hH.sublist (List.nil_sublist _)).fresh⟩
  try simp only [decide_eq_false_iff_not, beq_eq_false_iff_ne, bne_eq_false_iff_eq, ne_eq, Decidable.not_not, Int.not_lt, Int.not_le, Bool.not_eq_false', beq_iff_eq, bne_iff_ne, decide_eq_true_eq] at hc22
  have hne1 : ¬ R.2 = 1 := by omega
  have hW2 := hW.resolve_left (fun h9 => hne1 h9.1)
  obtain ⟨hw1, hw2⟩ := hW2
  refine sw_skip ?_
  refine sw_next ?_
  refine sw_seq ?_
  refine sw_seq ?_
  refine sw_region ?_  -- R17 law.go:154
  refine gl_ops 1 [(1, .string (bs nm)), (2, .slice Ap p.length cp), (4, .bool false), (5, .slice Ak ks.length ck), (14, .pointer (some ⟨db3, 0, none⟩)), (17, .slice A95 ((readD D1 nm).1.length) c96), (18, errV ((readD D1 nm).2)), (70, errV R.2)] (by kernel_rfl) ?_
  refine gl_q rfl rfl rfl (rd_err_eq (by kernel_rfl) rfl) ?_
  refine gl_ops 2 [(1, .string (bs nm)), (2, .slice Ap p.length cp), (4, .bool false), (5, .slice Ak ks.length ck), (14, .pointer (some ⟨db3, 0, none⟩)), (17, .slice A95 ((readD D1 nm).1.length) c96), (18, errV ((readD D1 nm).2)), (73, .bool ((R.2 == 0) == false))] (by kernel_rfl) ?_
  refine gl_cv 73 (.bool false) (by rw [hw1]; rfl) rfl ?_
  refine gl_done rfl ?_
  refine sw_next ?_
  refine sw_false rfl rfl ?_
  refine sw_skip ?_
  refine sw_next ?_
  refine sw_seq ?_
  refine sw_region ?_  -- R19 law.go:157
  refine gl_ops 2 [(1, .string (bs nm)), (2, .slice Ap p.length cp), (4, .bool false), (14, .pointer (some ⟨db3, 0, none⟩)), (17, .slice A95 ((readD D1 nm).1.length) c96), (18, errV ((readD D1 nm).2)), (74, .pointer (some ⟨db3, 0, none⟩)), (75, .slice Ak ks.length ck)] (by kernel_rfl) ?_
  replace hH : Hp w w134 _ _ [.grp (rdkO xb7 rv (D).off (actsI (D).ar) part L), .row (.slice A95 ((readD D1 nm).1.length) c96) 5 1 ((readD D1 nm).1.length) (bv (readD D1 nm).1), .grp (dskO db3 mb4 ab R.1 es130)] := hH
  replace hH := hH.pick [2, 0, 1] (by kernel_rfl) (os' := [.grp (dskO db3 mb4 ab R.1 es130), .grp (rdkO xb7 rv (D).off (actsI (D).ar) part L), .row (.slice A95 ((readD D1 nm).1.length) c96) 5 1 ((readD D1 nm).1.length) (bv (readD D1 nm).1)]) (by kernel_rfl)
  replace hH : Hp w w134 _ _ ([.grp (dskO db3 mb4 ab R.1 es130)] ++ [.grp (rdkO xb7 rv (D).off (actsI (D).ar) part L), .row (.slice A95 ((readD D1 nm).1.length) c96) 5 1 ((readD D1 nm).1.length) (bv (readD D1 nm).1)]) := hH
  refine gl_st (st_call rfl rfl rfl (by kernel_rfl) rfl (by have h9 := Start_ct db3 mb4 ab R.1 es130 _ ks _ _ hH.mine (hk.mono hH.zoff) hR131 hGR (by omega) (by omega); rw [← h3] at h9; exact h9) ?_)
  rintro _ w140 ⟨es138, rfl, hR139, hF141⟩
  replace hH := hH.turns hF141; clear hF141
  replace hH : Hp w w140 _ _ [.grp (rdkO xb7 rv (D).off (actsI (D).ar) part L), .row (.slice A95 ((readD D1 nm).1.length) c96) 5 1 ((readD D1 nm).1.length) (bv (readD D1 nm).1), .grp (dskO db3 mb4 ab D3 es138)] := hH
  have hG3 : Good D3.fs (sumB (ac.take i) + p.length) := by rw [h3]; exact good_start hGR ks
  have hA3 : ArOk D3.ar := by rw [h3]; intro a p e; cases e
  refine gl_done rfl ?_
  refine sw_next ?_
  refine sw_seq ?_
  refine sw_region ?_  -- R20 law.go:158
  refine gl_ops 2 [(2, .slice Ap p.length cp), (4, .bool false), (17, .slice A95 ((readD D1 nm).1.length) c96), (18, errV ((readD D1 nm).2)), (78, .pointer (some ⟨db3, 0, none⟩)), (79, .string (bs nm))] (by kernel_rfl) ?_
  replace hH : Hp w w140 _ _ [.grp (rdkO xb7 rv (D).off (actsI (D).ar) part L), .row (.slice A95 ((readD D1 nm).1.length) c96) 5 1 ((readD D1 nm).1.length) (bv (readD D1 nm).1), .grp (dskO db3 mb4 ab D3 es138)] := hH
  replace hH := hH.pick [2, 0, 1] (by kernel_rfl) (os' := [.grp (dskO db3 mb4 ab D3 es138), .grp (rdkO xb7 rv (D).off (actsI (D).ar) part L), .row (.slice A95 ((readD D1 nm).1.length) c96) 5 1 ((readD D1 nm).1.length) (bv (readD D1 nm).1)]) (by kernel_rfl)
  replace hH : Hp w w140 _ _ ([.grp (dskO db3 mb4 ab D3 es138)] ++ [.grp (rdkO xb7 rv (D).off (actsI (D).ar) part L), .row (.slice A95 ((readD D1 nm).1.length) c96) 5 1 ((readD D1 nm).1.length) (bv (readD D1 nm).1)]) := hH
  refine gl_st (st_call rfl rfl rfl (by kernel_rfl) rfl (Read_ct db3 mb4 ab D3 es138 nm _ _ hH.mine hR139 hA3 hG3 (by omega) hs) ?_)
  rintro _ w144 ⟨v142, rfl, hF145⟩
  replace hH := hH.turns hF145; clear hF145
  replace hH : Hp w w144 _ _ [.grp (rdkO xb7 rv (D).off (actsI (D).ar) part L), .row (.slice A95 ((readD D1 nm).1.length) c96) 5 1 ((readD D1 nm).1.length) (bv (readD D1 nm).1), .grp (dskO db3 mb4 ab D3 es138), .row _ 5 1 ((readD D3 nm).1.length) (bv (readD D3 nm).1)] := hH
  obtain ⟨A146, c147, rfl, hl148, hm149⟩ := hH.row_form 3 rfl
  refine gl_ops 5 [(2, .slice Ap p.length cp), (4, .bool false), (17, .slice A95 ((readD D1 nm).1.length) c96), (18, errV ((readD D1 nm).2)), (20, .slice A146 ((readD D3 nm).1.length) c147), (21, errV ((readD D3 nm).2))] (by kernel_rfl) ?_
  refine gl_done rfl ?_
  refine sw_next ?_
  refine sw_seq ?_
  refine sw_seq ?_
  refine sw_region ?_  -- R21 law.go:159
  refine gl_ops 1 [(2, .slice Ap p.length cp), (4, .bool false), (17, .slice A95 ((readD D1 nm).1.length) c96), (18, errV ((readD D1 nm).2)), (20, .slice A146 ((readD D3 nm).1.length) c147), (21, errV ((readD D3 nm).2)), (83, errV ((readD D3 nm).2))] (by kernel_rfl) ?_
  refine gl_q rfl rfl rfl (rd_err_eq (by kernel_rfl) rfl) ?_
  refine gl_ops 1 [(2, .slice Ap p.length cp), (4, .bool false), (17, .slice A95 ((readD D1 nm).1.length) c96), (18, errV ((readD D1 nm).2)), (20, .slice A146 ((readD D3 nm).1.length) c147), (21, errV ((readD D3 nm).2)), (85, .bool (((readD D3 nm).2) == 0))] (by kernel_rfl) ?_
  refine gl_split 85 (b := ((readD D3 nm).2) == 0) rfl (fun hg24 => ?_) (fun hg24 => ?_)
  ·
    try simp only [decide_eq_true_eq, beq_iff_eq, bne_iff_ne, ne_eq, Bool.not_eq_true', beq_eq_false_iff_ne, bne_eq_false_iff_eq, decide_eq_false_iff_not, Int.not_lt, Int.not_le] at hg24
    refine gl_ops 1 [(2, .slice Ap p.length cp), (4, .bool false), (17, .slice A95 ((readD D1 nm).1.length) c96), (18, errV ((readD D1 nm).2)), (20, .slice A146 ((readD D3 nm).1.length) c147), (21, errV ((readD D3 nm).2)), (85, .bool true), (86, .slice A146 ((readD D3 nm).1.length) c147)] (by kernel_rfl) ?_
    refine gl_q rfl rfl rfl (rd_str (e := 5) (by kernel_rfl) (by kernel_rfl) (by kernel_rfl) rfl (rb_own hH 3 rfl)) ?_
    refine gl_ops 1 [(4, .bool false), (17, .slice A95 ((readD D1 nm).1.length) c96), (18, errV ((readD D1 nm).2)), (20, .slice A146 ((readD D3 nm).1.length) c147), (21, errV ((readD D3 nm).2)), (85, .bool true), (87, .string (bs ((readD D3 nm).1))), (88, .slice Ap p.length cp)] (by kernel_rfl) ?_
    refine gl_q rfl rfl rfl (rd_str (e := 5) (by kernel_rfl) (by kernel_rfl) (by kernel_rfl) rfl (hp.mono hH.zin)) ?_
    refine gl_q rfl rfl rfl (rd_seql (by kernel_rfl) rfl rfl) ?_
    refine gl_ops 1 [(4, .bool false), (17, .slice A95 ((readD D1 nm).1.length) c96), (18, errV ((readD D1 nm).2)), (20, .slice A146 ((readD D3 nm).1.length) c147), (21, errV ((readD D3 nm).2)), (91, .bool (((readD D3 nm).1) == p))] (by kernel_rfl) ?_
    refine gl_done rfl ?_
    refine sw_next ?_
    refine sw_cond rfl rfl (fun hc25 => ?_) (fun hc25 => ?_)
    ·
      try simp only [decide_eq_true_eq, beq_iff_eq, bne_iff_ne, ne_eq, Bool.not_eq_true', beq_eq_false_iff_ne, bne_eq_false_iff_eq, decide_eq_false_iff_not, Int.not_lt, Int.not_le] at hc25
      refine sw_seq ?_
      refine sw_region ?_  -- R22 law.go:160
      refine gl_ops 1 [(12, .bool true)] (by kernel_rfl) ?_
      refine gl_done rfl ?_
      refine sw_next ?_
      refine sw_ret ?_
      refine thR ?_
      refine ret1 rfl rfl  ?_
      exact ⟨rfl, (hH.sublist (List.nil_sublist _)).fresh⟩
    try simp only [decide_eq_false_iff_not, beq_eq_false_iff_ne, bne_eq_false_iff_eq, ne_eq, Decidable.not_not, Int.not_lt, Int.not_le, Bool.not_eq_false', beq_iff_eq, bne_iff_ne, decide_eq_true_eq] at hc25
    have hne9 := hc25
    have hsec := hw2.resolve_left (fun h9 => hne9 (by rw [h9]))
    refine sw_skip ?_
    refine sw_next ?_
    refine sw_seq ?_
    refine sw_region ?_  -- R23 law.go:162
    refine gl_ops 16 [(12, .bool false)] (by kernel_rfl) ?_
    refine gl_done rfl ?_
    refine sw_next ?_
    refine sw_ret ?_
    refine ret1 rfl rfl  ?_
    exact absurd hsec.1 (by simp)
  try simp only [decide_eq_false_iff_not, beq_eq_false_iff_ne, bne_eq_false_iff_eq, ne_eq, Decidable.not_not, Int.not_lt, Int.not_le, Bool.not_eq_false', beq_iff_eq, bne_iff_ne, decide_eq_true_eq] at hg24
  have hg9 := hg24
  have hsec := hw2.resolve_left (fun h9 => hg9 (by rw [h9]))
  refine gl_ops 6 [(4, .bool false), (17, .slice A95 ((readD D1 nm).1.length) c96), (18, errV ((readD D1 nm).2)), (20, .slice A146 ((readD D3 nm).1.length) c147), (21, errV ((readD D3 nm).2)), (91, .bool false)] (by kernel_rfl) ?_
  refine gl_done rfl ?_
  refine sw_next ?_
  refine sw_false rfl rfl ?_
  refine sw_skip ?_
  refine sw_next ?_
  refine sw_seq ?_
  refine sw_region ?_  -- R23 law.go:162
  refine gl_ops 16 [(12, .bool false)] (by kernel_rfl) ?_
  refine gl_done rfl ?_
  refine sw_next ?_
  refine sw_ret ?_
  refine ret1 rfl rfl  ?_
  exact absurd hsec.1 (by simp)
end Go.Proofs.YtjcchjgkkplamaaDoor
