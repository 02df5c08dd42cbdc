/- Law 19: what was saved lasts: the law's walk. -/
import Derived.Test.YtajapgjemefoiaaGreatDoorGi
set_option maxRecDepth 100000
set_option maxHeartbeats 4000000
set_option linter.unusedVariables false
set_option linter.unusedSimpArgs false
namespace Go.Proofs.YtajapgjemefoiaaGreatDoor
open Go.RowKit Go.SW

theorem WalLasts_ct (va : Value) (ac : List AW) (vk : Value) (ks : List Int) (w : World) (hG : w.cell? ⟨0, 0, none⟩ = some errTy) (hA : Row w.cell? va 7 ac.length (rowC awC ac)) (hok : ∀ a ∈ ac, AwOk w.cell? a) (hB : wtW ac ≤ 1048576) (hk : Row w.cell? vk 1 ks.length (iv ks)) :
    Fun Tryz.prog 5 [va, vk] w fun v w' => v = .bool true ∧ Fresh w w' [] := by
 obtain ⟨Aa, ca, rfl, ha1, ha2⟩ := hA.form
 have ha3 := ha2
 simp only [maxLen] at ha3
 obtain ⟨Ak, ck, rfl, hk1, hk2⟩ := hk.form
 refine fun_of_sw Tryz.func5 rfl 150 rfl rfl ?_
 have hH := Hp.start w
 refine sw_sr ?_
 refine glo 1 [(0, .slice Aa ac.length ca), (1, .slice Ak ks.length ck)] ?_
 refine gl_dn rfl ?_
 refine sw_sr ?_
 refine gl_st (st_call rfl rfl rfl (by kernel_rfl) rfl (Small19_ct _ (hH.zin _ _ hG)) ?_)
 rintro _ w1 ⟨rfl, hF2⟩
 replace hH := hH.call hF2; clear hF2
 refine glo 1 [(0, .slice Aa ac.length ca), (1, .slice Ak ks.length ck), (5, .bool true)] ?_
 refine gl_dn rfl ?_
 refine sw_sr ?_
 refine gl_st (st_call rfl rfl rfl (by kernel_rfl) rfl (DNew_ct _) ?_)
 rintro _ w5 ⟨db3, mb4, rfl, hF6⟩
 replace hH := hH.call hF6; clear hF6
 refine glo 1 [(0, .slice Aa ac.length ca), (1, .slice Ak ks.length ck), (5, .bool true), (6, Pp db3 0)] ?_
 refine gl_dn rfl ?_
 refine sw_seq ?_
 refine sw_sr ?_
 refine glo 6 [(0, .slice Aa ac.length ca), (1, .slice Ak ks.length ck), (6, Pp db3 0), (31, .bool false)] ?_
 refine gl_dn rfl ?_
 refine sw_false rfl rfl ?_
 refine sw_skip ?_
 refine sw_next ?_
 refine sw_sr ?_
 refine glo 1 [(0, .slice Aa ac.length ca), (1, .slice Ak ks.length ck), (6, Pp db3 0), (33, Pp db3 0)] ?_
 replace hH : Hp w w5 _ _ ([_] ++ []) := hH
 refine gl_st (st_call rfl rfl rfl (by kernel_rfl) rfl (OpenNew_ct hH.mine) ?_)
 rintro _ w14 ⟨g7, es8, ve9, pl10, pe11, rfl, ⟨hL12, hR13⟩, hF15⟩
 replace hH := hH.turns hF15; clear hF15
 replace hH : Hp w w14 _ _ [_, _, _] := hH
 refine glo 5 [(0, .slice Aa ac.length ca), (1, .slice Ak ks.length ck), (6, Pp db3 0), (7, Pp g7 0), (8, .nilIface)] ?_
 refine gl_dn rfl ?_
 refine sw_seq ?_
 refine sw_sr ?_
 refine glo 1 [(0, .slice Aa ac.length ca), (1, .slice Ak ks.length ck), (6, Pp db3 0), (7, Pp g7 0), (8, .nilIface), (9, .int .i64 0)] ?_
 refine gl_dn rfl ?_
 refine sw_block ?_
 replace hH : Hp w w14 _ _ [_, _, _] := (hH.sublist (slk (slk (slk sln))))
 refine sw_loop (γ := Nat × Nat × Dsk × Lg × EQ × Value × Pl × List PE) (fun (i, g, D, l, es, ve, pl, pe) => [(0, .slice Aa ac.length ca), (1, .slice Ak ks.length ck), (6, Pp db3 0), (7, Pp g 0), (8, .nilIface), (9, Ni i)]) (fun (i, g, D, l, es, ve, pl, pe) w_ => (i ≤ ac.length) ∧ (i ≤ 60) ∧ (LogI D l i (wtW (ac.take i))) ∧ (CnR pl l.c es ve) ∧ (Rep pe D.fs) ∧ Hp w w_ (w.cell?) [] [lgI g db3 l ve, plO pl, dkI db3 mb4 0 D pe]) (fun (i, g, D, l, es, ve, pl, pe) => ac.length - i) (0, g7, newD, newL, es8, ve9, pl10, pe11) (Sub.of_eq (by kernel_rfl)) ?_ ?_
 · exact ⟨by omega, by omega, logI_new.mono (by omega) (by omega), hL12, hR13, hH⟩
 clear hH
 rintro ⟨i, g, D, l, es, ve, pl, pe⟩ w16 ⟨hi, hi2, hI, hL, hR, hH⟩
 have hal := wtW_le ac i
 refine swk [(0, .slice Aa ac.length ca), (1, .slice Ak ks.length ck), (6, Pp db3 0), (7, Pp g 0), (8, .nilIface), (9, Ni i)] ?_
 refine sw_seq ?_
 refine sw_sr ?_
 refine glo 2 [(0, .slice Aa ac.length ca), (1, .slice Ak ks.length ck), (6, Pp db3 0), (7, Pp g 0), (8, .nilIface), (9, Ni i), (37, Ni i), (38, .slice Aa ac.length ca)] ?_
 refine gl_q rfl rfl rfl (rd_len (e := 47) (by kernel_rfl) rfl) ?_
 refine glo 2 [(0, .slice Aa ac.length ca), (1, .slice Ak ks.length ck), (6, Pp db3 0), (7, Pp g 0), (8, .nilIface), (9, Ni i), (41, .bool (decide (((i : Nat) : Int) < ((ac.length : Nat) : Int))))] ?_
 refine gl_split 41 (b := decide (((i : Nat) : Int) < ((ac.length : Nat) : Int))) rfl (fun hg2 => ?_) (fun hg2 => ?_)
 ·
  try simp only [decide_eq_true_eq] at hg2
  refine glo 3 [(0, .slice Aa ac.length ca), (1, .slice Ak ks.length ck), (6, Pp db3 0), (7, Pp g 0), (8, .nilIface), (9, Ni i), (44, .bool (decide (((i : Nat) : Int) < (60 : Int))))] ?_
  refine gl_dn rfl ?_
  refine sw_cond rfl rfl (fun hc3 => ?_) (fun hc3 => ?_)
  ·
   try simp only [decide_eq_true_eq] at hc3
   refine sw_skip ?_
   refine sw_next ?_
   refine sw_seq ?_
   refine sw_block ?_
   refine sw_seq ?_
   refine sw_sr ?_
   refine glo 6 [(0, .slice Aa ac.length ca), (1, .slice Ak ks.length ck), (6, Pp db3 0), (7, Pp g 0), (8, .nilIface), (9, Ni i), (52, .bool false)] ?_
   refine gl_dn rfl ?_
   refine sw_false rfl rfl ?_
   refine sw_skip ?_
   refine sw_next ?_
   obtain ⟨a, ha⟩ : ∃ a, ac[i]? = some a := ⟨_, List.getElem?_eq_getElem (by omega)⟩
   have hka := hok a (List.mem_of_getElem? ha)
   have hs1 := wtW_next ha
   have hs2 := wtW_le ac (i + 1)
   have hn9 := hka.n
   have hm9 := hka.m
   have hvb1 : a.vl.oneCell' = true := by obtain ⟨_, _, h9, _⟩ := hka.row.form; rw [h9]; rfl
   have hvb2 : a.vk.oneCell' = true := by obtain ⟨_, _, h9, _⟩ := hka.ks.form; rw [h9]; rfl
   have hvb3 := hka.vb
   refine sw_sr ?_
   obtain ⟨p17, hi19, hp18⟩ := hA.idx i (by omega) (by decide)
   refine glo 2 [(0, .slice Aa ac.length ca), (1, .slice Ak ks.length ck), (6, Pp db3 0), (7, Pp g 0), (8, .nilIface), (9, Ni i), (53, .slice Aa ac.length ca), (54, Ni i)] ?_
   refine gl_q rfl rfl rfl (rd_idx (e := 47) (m := 7) (by kernel_rfl) (by kernel_rfl) rfl rfl hi19) ?_
   refine gl_q rfl rfl rfl (rd_loadZA (by kernel_rfl) hH hp18 rfl 0 rfl [.int .i64 a.dv, .int .i64 a.n, .int .i64 a.m, a.vl, a.vk, .string (bs a.nm), a.vb] (by kernel_rfl) (rowC_all awC_len ha 0 _ rfl)) ?_
   refine gl_st (st_allocH rfl rfl rfl (cs := [.int .i64 0, .int .i64 0, .int .i64 0, .slice none 0 0, .slice none 0 0, .string (bs []), .slice none 0 0]) (by kernel_rfl) hH ?_)
   clear hH; intro b20 w21 hH
   refine gl_st (st_storeKA (vs := [.int .i64 a.dv, .int .i64 a.n, .int .i64 a.m, a.vl, a.vk, .string (bs a.nm), a.vb]) 3 rfl rfl rfl hH rfl rfl (by simp only [List.all_cons, List.all_nil, hvb1, hvb2, hvb3]; rfl) (by kernel_rfl) rfl (by simp) [.int .i64 a.dv, .int .i64 a.n, .int .i64 a.m, a.vl, a.vk, .string (bs a.nm), a.vb] rfl ?_)
   clear hH; intro w22 hH
   refine gl_dn rfl ?_
   refine sw_cut (γ := Nat × Dsk × Lg × EQ × Value × Pl × List PE) (fun (J, D1, l1, es1, ve1, pl1, pe1) => [(0, .slice Aa ac.length ca), (1, .slice Ak ks.length ck), (6, Pp db3 0), (7, Pp g 0), (8, .nilIface), (9, Ni i), (10, Pp b20 0)]) (fun (J, D1, l1, es1, ve1, pl1, pe1) w_ => (J ≤ i ∨ (J ≤ i + 1 ∧ a.dv = 0)) ∧ (LogI D1 l1 J (wtW (ac.take (i + 1)))) ∧ (CnR pl1 l1.c es1 ve1) ∧ (Rep pe1 D1.fs) ∧ Hp w w_ (w.cell?) [] [lgI g db3 l1 ve1, plO pl1, dkI db3 mb4 0 D1 pe1, .blk b20 47 [.int .i64 a.dv, .int .i64 a.n, .int .i64 a.m, a.vl, a.vk, .string (bs a.nm), a.vb]]) ?_ ?_
   ·
    refine sw_sr ?_
    refine glo 1 [(0, .slice Aa ac.length ca), (1, .slice Ak ks.length ck), (6, Pp db3 0), (7, Pp g 0), (8, .nilIface), (9, Ni i), (10, Pp b20 0), (57, Pp b20 0)] ?_
    refine gl_q rfl rfl rfl (rd_loadK 3 (by kernel_rfl) hH rfl rfl rfl) ?_
    refine glo 1 [(0, .slice Aa ac.length ca), (1, .slice Ak ks.length ck), (6, Pp db3 0), (7, Pp g 0), (8, .nilIface), (9, Ni i), (10, Pp b20 0), (59, .bool ((a.dv : Int) == (0 : Int)))] ?_
    refine gl_dn rfl ?_
    refine sw_cond rfl rfl (fun hc5 => ?_) (fun hc5 => ?_)
    ·
     try simp only [beq_iff_eq] at hc5
     refine sw_region ?_
     refine glo 2 [(0, .slice Aa ac.length ca), (1, .slice Ak ks.length ck), (6, Pp db3 0), (7, Pp g 0), (8, .nilIface), (9, Ni i), (10, Pp b20 0), (60, Pp g 0), (61, Pp b20 1)] ?_
     refine gl_q rfl rfl rfl (rd_loadK 3 (by kernel_rfl) hH rfl rfl rfl) ?_
     refine glo 1 [(0, .slice Aa ac.length ca), (1, .slice Ak ks.length ck), (6, Pp db3 0), (7, Pp g 0), (8, .nilIface), (9, Ni i), (10, Pp b20 0), (60, Pp g 0), (62, .int .i64 a.n), (63, Pp b20 2)] ?_
     refine gl_q rfl rfl rfl (rd_loadK 3 (by kernel_rfl) hH rfl rfl rfl) ?_
     refine glo 1 [(0, .slice Aa ac.length ca), (1, .slice Ak ks.length ck), (6, Pp db3 0), (7, Pp g 0), (8, .nilIface), (9, Ni i), (10, Pp b20 0), (60, Pp g 0), (62, .int .i64 a.n), (64, .int .i64 a.m), (65, Pp b20 3)] ?_
     refine gl_q rfl rfl rfl (rd_loadK 3 (by kernel_rfl) hH rfl rfl rfl) ?_
     replace hH : Hp w w22 _ _ ([_, _, _] ++ [_]) := hH
     refine gl_st (st_call rfl rfl rfl (by kernel_rfl) rfl (SaveI_ct g a.n a.m _ _ es a.L pl pe hH.mine hI (by omega) (by omega) hL (hka.row.mono hH.zoff) (fun q hq => (hka.rb q hq).mono hH.zoff) hka.ok (by omega) (by omega) hR) ?_)
     rintro _ w34 ⟨D23, l24, er25, es26, ve27, pl28, pe29, rfl, ⟨hs30, hI31, hL32, hR33⟩, hF35⟩
     replace hH := hH.turns hF35; clear hF35
     replace hH : Hp w w34 _ _ [_, _, _, _] := hH
     refine gl_done rfl ?_
     refine cut_end (i + 1, D23, l24, es26, ve27, pl28, pe29) (Sub.of_eq (by kernel_rfl)) ?_
     replace hH := hH.fr4.fr4.fr4
     replace hH : Hp w w34 _ _ [_, _, _, _] := (hH.sublist (slk (slk (slk (slk sln)))))
     exact ⟨by omega, hI31.mono (by omega) (by omega), hL32, hR33, hH⟩
    try simp only [beq_eq_false_iff_ne, ne_eq] at hc5
    refine sw_skip ?_
    refine cut_end (i, D, l, es, ve, pl, pe) (Sub.of_eq (by kernel_rfl)) ?_
    replace hH : Hp w w22 _ _ [_, _, _, _] := (hH.sublist (slk (slk (slk (slk sln)))))
    exact ⟨by omega, hI.mono (by omega) (by omega), hL, hR, hH⟩
   clear hH
   rintro ⟨J, D1, l1, es1, ve1, pl1, pe1⟩ w36 ⟨hJ, hI1, hL1, hR1, hH⟩
   refine swk [(0, .slice Aa ac.length ca), (1, .slice Ak ks.length ck), (6, Pp db3 0), (7, Pp g 0), (8, .nilIface), (9, Ni i), (10, Pp b20 0)] ?_
   refine sw_cut (γ := Dsk × Lg × EQ × Value × Pl × List PE) (fun (D2, l2, es2, ve2, pl2, pe2) => [(0, .slice Aa ac.length ca), (1, .slice Ak ks.length ck), (6, Pp db3 0), (7, Pp g 0), (8, .nilIface), (9, Ni i), (10, Pp b20 0)]) (fun (D2, l2, es2, ve2, pl2, pe2) w_ => (LogI D2 l2 (i + 1) (wtW (ac.take (i + 1)))) ∧ (CnR pl2 l2.c es2 ve2) ∧ (Rep pe2 D2.fs) ∧ Hp w w_ (w.cell?) [] [lgI g db3 l2 ve2, plO pl2, dkI db3 mb4 0 D2 pe2, .blk b20 47 [.int .i64 a.dv, .int .i64 a.n, .int .i64 a.m, a.vl, a.vk, .string (bs a.nm), a.vb]]) ?_ ?_
   ·
    refine sw_sr ?_
    refine glo 1 [(0, .slice Aa ac.length ca), (1, .slice Ak ks.length ck), (6, Pp db3 0), (7, Pp g 0), (8, .nilIface), (9, Ni i), (10, Pp b20 0), (68, Pp b20 0)] ?_
    refine gl_q rfl rfl rfl (rd_loadK 3 (by kernel_rfl) hH rfl rfl rfl) ?_
    refine glo 1 [(0, .slice Aa ac.length ca), (1, .slice Ak ks.length ck), (6, Pp db3 0), (7, Pp g 0), (8, .nilIface), (9, Ni i), (10, Pp b20 0), (70, .bool ((a.dv : Int) == (1 : Int)))] ?_
    refine gl_dn rfl ?_
    refine sw_cond rfl rfl (fun hc6 => ?_) (fun hc6 => ?_)
    ·
     try simp only [beq_iff_eq] at hc6
     refine sw_region ?_
     refine glo 2 [(0, .slice Aa ac.length ca), (1, .slice Ak ks.length ck), (6, Pp db3 0), (7, Pp g 0), (8, .nilIface), (9, Ni i), (10, Pp b20 0), (71, Pp g 0), (72, Pp b20 1)] ?_
     refine gl_q rfl rfl rfl (rd_loadK 3 (by kernel_rfl) hH rfl rfl rfl) ?_
     refine glo 1 [(0, .slice Aa ac.length ca), (1, .slice Ak ks.length ck), (6, Pp db3 0), (7, Pp g 0), (8, .nilIface), (9, Ni i), (10, Pp b20 0), (71, Pp g 0), (73, .int .i64 a.n), (74, Pp b20 2)] ?_
     refine gl_q rfl rfl rfl (rd_loadK 3 (by kernel_rfl) hH rfl rfl rfl) ?_
     replace hH : Hp w w36 _ _ ([_, _, _] ++ [_]) := hH
     refine gl_st (st_call rfl rfl rfl (by kernel_rfl) rfl (CompactI_ct g a.n a.m _ es1 pl1 pe1 hH.mine hI1 (by omega) (by omega) hL1 (by omega) (by omega) hR1) ?_)
     rintro _ w48 ⟨D37, l38, er39, es40, ve41, pl42, pe43, rfl, ⟨hs44, hI45, hL46, hR47⟩, hF49⟩
     replace hH := hH.turns hF49; clear hF49
     replace hH : Hp w w48 _ _ [_, _, _, _] := hH
     refine gl_done rfl ?_
     refine cut_end (D37, l38, es40, ve41, pl42, pe43) (Sub.of_eq (by kernel_rfl)) ?_
     replace hH := hH.fr4.fr4.fr4
     replace hH : Hp w w48 _ _ [_, _, _, _] := (hH.sublist (slk (slk (slk (slk sln)))))
     exact ⟨hI45.mono (by omega) (by omega), hL46, hR47, hH⟩
    try simp only [beq_eq_false_iff_ne, ne_eq] at hc6
    refine sw_skip ?_
    refine cut_end (D1, l1, es1, ve1, pl1, pe1) (Sub.of_eq (by kernel_rfl)) ?_
    replace hH : Hp w w36 _ _ [_, _, _, _] := (hH.sublist (slk (slk (slk (slk sln)))))
    exact ⟨hI1.mono (by omega) (by omega), hL1, hR1, hH⟩
   clear hH
   rintro ⟨D2, l2, es2, ve2, pl2, pe2⟩ w50 ⟨hI2, hL2, hR2, hH⟩
   refine swk [(0, .slice Aa ac.length ca), (1, .slice Ak ks.length ck), (6, Pp db3 0), (7, Pp g 0), (8, .nilIface), (9, Ni i), (10, Pp b20 0)] ?_
   refine sw_seq ?_
   refine sw_sr ?_
   refine glo 1 [(0, .slice Aa ac.length ca), (1, .slice Ak ks.length ck), (6, Pp db3 0), (7, Pp g 0), (8, .nilIface), (9, Ni i), (10, Pp b20 0), (77, Pp b20 0)] ?_
   refine gl_q rfl rfl rfl (rd_loadK 3 (by kernel_rfl) hH rfl rfl rfl) ?_
   refine glo 1 [(0, .slice Aa ac.length ca), (1, .slice Ak ks.length ck), (6, Pp db3 0), (7, Pp g 0), (8, .nilIface), (9, Ni i), (10, Pp b20 0), (79, .bool (decide ((a.dv : Int) < (3 : Int))))] ?_
   refine gl_dn rfl ?_
   refine sw_cond rfl rfl (fun hc7 => ?_) (fun hc7 => ?_)
   ·
    try simp only [decide_eq_true_eq] at hc7
    refine sw_exit ?_
    refine thX ?_
    refine bkH ?_
    refine sw_next ?_
    refine sw_region ?_
    refine glo 2 [(0, .slice Aa ac.length ca), (1, .slice Ak ks.length ck), (6, Pp db3 0), (7, Pp g 0), (8, .nilIface), (46, .int .i64 (IntKind.i64.wrap (((i : Nat) : Int) + 1)))] ?_
    refine gl_cv 46 (Ni (i + 1)) (cv_i64 (by omega)) rfl ?_
    refine glo 1 [(0, .slice Aa ac.length ca), (1, .slice Ak ks.length ck), (6, Pp db3 0), (7, Pp g 0), (8, .nilIface), (9, Ni (i + 1))] ?_
    refine gl_done rfl ?_
    refine rnd_end (g := (i, g, D, l, es, ve, pl, pe)) (i + 1, g, D2, l2, es2, ve2, pl2, pe2) (by kernel_rfl) ?_ ?_
    replace hH : Hp w w50 _ _ [_, _, _] := (hH.sublist (slk (slk (slk sln))))
    · exact ⟨by omega, by omega, hI2.mono (by omega) (by omega), hL2, hR2, hH⟩
    · show ac.length - (i + 1) < ac.length - i; omega
   try simp only [decide_eq_false_iff_not, Int.not_lt, Int.not_le] at hc7
   refine sw_skip ?_
   refine sw_next ?_
   refine sw_sr ?_
   refine glo 1 [(0, .slice Aa ac.length ca), (1, .slice Ak ks.length ck), (6, Pp db3 0), (9, Ni i), (10, Pp b20 0), (81, Pp g 0)] ?_
   refine gl_st (st_call rfl rfl rfl (by kernel_rfl) rfl (What_ct g l2.c _ es2 _ (hH.blk_cell 0 rfl rfl) (hH.blk_cell 0 rfl rfl) (hH.blk_cell 0 rfl rfl) (hH.blk_cell 0 rfl rfl) (hH.blk_cell 0 rfl rfl) (hL2.row.mono (pz_le hH 1 rfl)) (fun q hq => (hL2.ok q hq).1.d.mono (pz_le hH 1 rfl)) (fun q hq => (hL2.ok q hq).2) (by have h9 := hL2.len; have h8 := hI2.cnt; omega)) ?_)
   rintro _ w58 ⟨v51, v52, rs53, rfl, hrs54, hF59⟩
   replace hH := hH.call hF59; clear hF59
   rw [hL2.fst] at hrs54
   obtain ⟨A60, c61, rfl, hl62, hm63⟩ := hH.row_form 4 rfl
   obtain ⟨A64, c65, rfl, hl66, hm67⟩ := hH.row_form 5 rfl
   refine glo 5 [(0, .slice Aa ac.length ca), (1, .slice Ak ks.length ck), (6, Pp db3 0), (9, Ni i), (10, Pp b20 0), (11, .slice A60 4 c61), (12, .slice A64 rs53.length c65)] ?_
   refine gl_dn rfl ?_
   refine sw_sr ?_
   refine glo 2 [(0, .slice Aa ac.length ca), (1, .slice Ak ks.length ck), (6, Pp db3 0), (9, Ni i), (11, .slice A60 4 c61), (12, .slice A64 rs53.length c65), (85, Pp db3 0), (86, Pp b20 4)] ?_
   refine gl_q rfl rfl rfl (rd_loadK 3 (by kernel_rfl) hH rfl rfl rfl) ?_
   replace hH : Hp w w58 _ _ ([_] ++ [_, _, _, _, _, _]) := hH.fr3
   refine gl_st (st_call rfl rfl rfl (by kernel_rfl) rfl (by have h9 := Start_ct db3 mb4 0 D2 pe2 _ a.ks _ _ hH.mine (hka.ks.mono hH.zoff) hR2 hI2.good (by omega) (by have := hI2.few; omega); rw [hI2.start a.ks] at h9; exact h9) ?_)
   rintro _ w70 ⟨pe68, rfl, hR69, hF71⟩
   replace hH := hH.turns hF71; clear hF71
   replace hH : Hp w w70 _ _ [_, _, _, _, _, _, _] := hH
   refine gl_dn rfl ?_
   refine sw_sr ?_
   refine glo 1 [(0, .slice Aa ac.length ca), (1, .slice Ak ks.length ck), (6, Pp db3 0), (9, Ni i), (11, .slice A60 4 c61), (12, .slice A64 rs53.length c65), (90, Pp db3 0)] ?_
   replace hH : Hp w w70 _ _ ([_] ++ [_, _, _, _, _, _]) := hH.fr7
   refine gl_st (st_call rfl rfl rfl (by kernel_rfl) rfl (OpenI_ct (mb := mb4) (ab := 0) (D := D2) (l := l2) pe68 hH.mine hI2 (by omega) (by omega) hR69) ?_)
   rintro _ w79 ⟨g72, es73, ve74, pl75, pe76, rfl, ⟨hL77, hR78⟩, hF80⟩
   replace hH := hH.turns hF80; clear hF80
   replace hH : Hp w w79 _ _ [_, _, _, _, _, _, _, _, _] := hH
   replace hH : Hp w w79 _ _ [_, _, _, _, _, _, _, _, _] := hH
   refine glo 5 [(0, .slice Aa ac.length ca), (1, .slice Ak ks.length ck), (6, Pp db3 0), (7, Pp g72 0), (8, .nilIface), (9, Ni i), (11, .slice A60 4 c61), (12, .slice A64 rs53.length c65)] ?_
   refine gl_dn rfl ?_
   refine sw_seq ?_
   refine sw_sr ?_
   refine glo 6 [(0, .slice Aa ac.length ca), (1, .slice Ak ks.length ck), (6, Pp db3 0), (7, Pp g72 0), (8, .nilIface), (9, Ni i), (11, .slice A60 4 c61), (12, .slice A64 rs53.length c65), (99, .bool false)] ?_
   refine gl_dn rfl ?_
   refine sw_false rfl rfl ?_
   refine sw_skip ?_
   refine sw_next ?_
   refine sw_sr ?_
   refine glo 1 [(0, .slice Aa ac.length ca), (1, .slice Ak ks.length ck), (6, Pp db3 0), (7, Pp g72 0), (8, .nilIface), (9, Ni i), (11, .slice A60 4 c61), (12, .slice A64 rs53.length c65), (101, Pp g72 0)] ?_
   refine gl_st (st_call rfl rfl rfl (by kernel_rfl) rfl (What_ct g72 l2.c _ es73 _ (hH.blk_cell 6 rfl rfl) (hH.blk_cell 6 rfl rfl) (hH.blk_cell 6 rfl rfl) (hH.blk_cell 6 rfl rfl) (hH.blk_cell 6 rfl rfl) (hL77.row.mono (pz_le hH 7 rfl)) (fun q hq => (hL77.ok q hq).1.d.mono (pz_le hH 7 rfl)) (fun q hq => (hL77.ok q hq).2) (by have h9 := hL77.len; have h8 := hI2.cnt; omega)) ?_)
   rintro _ w88 ⟨v81, v82, rs83, rfl, hrs84, hF89⟩
   replace hH := hH.call hF89; clear hF89
   rw [hL77.fst] at hrs84
   obtain ⟨A90, c91, rfl, hl92, hm93⟩ := hH.row_form 9 rfl
   obtain ⟨A94, c95, rfl, hl96, hm97⟩ := hH.row_form 10 rfl
   replace hH : Hp w w88 _ _ [_, _, _, _, _, _, _, _, _, _, _, _] := hH
   refine glo 5 [(0, .slice Aa ac.length ca), (1, .slice Ak ks.length ck), (6, Pp db3 0), (7, Pp g72 0), (8, .nilIface), (9, Ni i), (11, .slice A60 4 c61), (12, .slice A64 rs53.length c65), (13, .slice A90 4 c91), (14, .slice A94 rs83.length c95)] ?_
   refine gl_dn rfl ?_
   refine sw_sr ?_
   refine glo 4 [(0, .slice Aa ac.length ca), (1, .slice Ak ks.length ck), (6, Pp db3 0), (7, Pp g72 0), (8, .nilIface), (9, Ni i), (105, .slice A60 4 c61), (106, .slice A64 rs53.length c65), (107, .slice A90 4 c91), (108, .slice A94 rs83.length c95)] ?_
   refine gl_st (st_call rfl rfl rfl (by kernel_rfl) rfl (Alike_ct _ _ _ _ ((l2.c.term : Nat) : Int) ((l2.c.vote : Nat) : Int) ((l2.c.ix : Nat) : Int) ((l2.c.ah : Nat) : Int) ((l2.c.term : Nat) : Int) ((l2.c.vote : Nat) : Int) ((l2.c.ix : Nat) : Int) ((l2.c.ah : Nat) : Int) (eiN rs53) (eiN rs83) _ (hH.row_reads 3 rfl) (row_rs (hH.row_reads 4 rfl)) (hH.row_reads 9 rfl) (row_rs (hH.row_reads 10 rfl)) (eiN_rb (enRows_rb hH 5 rfl)) (eiN_rb (enRows_rb hH 11 rfl))) ?_)
   rintro _ w100 ⟨b98, rfl, hb99, hF101⟩
   replace hH := hH.call hF101; clear hF101
   obtain rfl : b98 = true := hb99.2 (⟨⟨rfl, rfl, rfl, rfl⟩, by rw [eiN_fst, eiN_fst, hrs54, hrs84]⟩)
   replace hH : Hp w w100 _ _ [_, _, _, _, _, _, _, _, _, _, _, _] := hH
   refine glo 1 [(0, .slice Aa ac.length ca), (1, .slice Ak ks.length ck), (6, Pp db3 0), (7, Pp g72 0), (8, .nilIface), (9, Ni i), (15, .bool true)] ?_
   refine gl_dn rfl ?_
   refine sw_sr ?_
   refine glo 2 [(0, .slice Aa ac.length ca), (1, .slice Ak ks.length ck), (6, Pp db3 0), (7, Pp g72 0), (8, .nilIface), (9, Ni i), (111, .bool false)] ?_
   refine gl_dn rfl ?_
   refine sw_false rfl rfl ?_
   refine sw_skip ?_
   refine bkN ?_
   refine sw_next ?_
   refine sw_region ?_
   refine glo 2 [(0, .slice Aa ac.length ca), (1, .slice Ak ks.length ck), (6, Pp db3 0), (7, Pp g72 0), (8, .nilIface), (46, .int .i64 (IntKind.i64.wrap (((i : Nat) : Int) + 1)))] ?_
   refine gl_cv 46 (Ni (i + 1)) (cv_i64 (by omega)) rfl ?_
   refine glo 1 [(0, .slice Aa ac.length ca), (1, .slice Ak ks.length ck), (6, Pp db3 0), (7, Pp g72 0), (8, .nilIface), (9, Ni (i + 1))] ?_
   refine gl_done rfl ?_
   refine rnd_end (g := (i, g, D, l, es, ve, pl, pe)) (i + 1, g72, D2, l2, es73, ve74, pl75, pe76) (by kernel_rfl) ?_ ?_
   replace hH := hH.fr9.fr9.fr9
   replace hH : Hp w w100 _ _ [_, _, _] := (hH.sublist (slk (slk (slk sln))))
   · exact ⟨by omega, by omega, hI2.mono (by omega) (by omega), hL77, hR78, hH⟩
   · show ac.length - (i + 1) < ac.length - i; omega
  try simp only [decide_eq_false_iff_not, Int.not_lt, Int.not_le] at hc3
  refine sw_exit ?_
  refine thX ?_
  refine thX ?_
  refine bkH ?_
  refine sw_next ?_
  refine sw_sr ?_
  refine glo 1 [(1, .slice Ak ks.length ck), (6, Pp db3 0), (113, Pp g 0)] ?_
  refine gl_st (st_call rfl rfl rfl (by kernel_rfl) rfl (What_ct g l.c _ es _ (hH.blk_cell 0 rfl rfl) (hH.blk_cell 0 rfl rfl) (hH.blk_cell 0 rfl rfl) (hH.blk_cell 0 rfl rfl) (hH.blk_cell 0 rfl rfl) (hL.row.mono (pz_le hH 1 rfl)) (fun q hq => (hL.ok q hq).1.d.mono (pz_le hH 1 rfl)) (fun q hq => (hL.ok q hq).2) (by have h9 := hL.len; have h8 := hI.cnt; omega)) ?_)
  rintro _ w109 ⟨v102, v103, rs104, rfl, hrs105, hF110⟩
  replace hH := hH.call hF110; clear hF110
  rw [hL.fst] at hrs105
  obtain ⟨A111, c112, rfl, hl113, hm114⟩ := hH.row_form 3 rfl
  obtain ⟨A115, c116, rfl, hl117, hm118⟩ := hH.row_form 4 rfl
  refine glo 5 [(1, .slice Ak ks.length ck), (6, Pp db3 0), (16, .slice A111 4 c112), (17, .slice A115 rs104.length c116)] ?_
  refine gl_dn rfl ?_
  refine sw_sr ?_
  refine glo 2 [(6, Pp db3 0), (16, .slice A111 4 c112), (17, .slice A115 rs104.length c116), (117, Pp db3 0), (118, .slice Ak ks.length ck)] ?_
  replace hH : Hp w w109 _ _ ([_] ++ [_, _, _, _, _]) := hH.fr3
  refine gl_st (st_call rfl rfl rfl (by kernel_rfl) rfl (by have h9 := Start_ct db3 mb4 0 D pe _ ks _ _ hH.mine (hk.mono hH.zoff) hR hI.good (by omega) (by have := hI.few; omega); rw [hI.start ks] at h9; exact h9) ?_)
  rintro _ w121 ⟨pe119, rfl, hR120, hF122⟩
  replace hH := hH.turns hF122; clear hF122
  replace hH : Hp w w121 _ _ [_, _, _, _, _, _] := hH
  refine gl_dn rfl ?_
  refine sw_sr ?_
  refine glo 1 [(6, Pp db3 0), (16, .slice A111 4 c112), (17, .slice A115 rs104.length c116), (120, Pp db3 0)] ?_
  replace hH : Hp w w121 _ _ ([_] ++ [_, _, _, _, _]) := hH.fr6
  refine gl_st (st_call rfl rfl rfl (by kernel_rfl) rfl (Files_ct db3 mb4 0 D pe119 _ _ hH.mine hR120 hI.good (by omega) (by have := hI.few; omega)) ?_)
  rintro _ w128 ⟨v123, fs124, rfl, hfs125, hF129⟩
  replace hH := hH.turns hF129; clear hF129
  replace hH : Hp w w128 _ _ [_, _, _, _, _, _, _, _] := hH
  obtain ⟨A130, c131, rfl, hl132, hm133⟩ := hH.row_form 6 rfl
  refine glo 1 [(6, Pp db3 0), (16, .slice A111 4 c112), (17, .slice A115 rs104.length c116), (18, .slice A130 fs124.length c131)] ?_
  refine gl_dn rfl ?_
  refine sw_sr ?_
  refine glo 1 [(6, Pp db3 0), (16, .slice A111 4 c112), (17, .slice A115 rs104.length c116), (18, .slice A130 fs124.length c131), (123, Pp db3 0)] ?_
  replace hH : Hp w w128 _ _ ([_] ++ [_, _, _, _, _, _, _]) := hH.fr6
  refine gl_st (st_call rfl rfl rfl (by kernel_rfl) rfl (OpenI_ct (mb := mb4) (ab := 0) (D := D) (l := l) pe119 hH.mine hI (by omega) (by omega) hR120) ?_)
  rintro _ w141 ⟨g134, es135, ve136, pl137, pe138, rfl, ⟨hL139, hR140⟩, hF142⟩
  replace hH := hH.turns hF142; clear hF142
  replace hH : Hp w w141 _ _ [_, _, _, _, _, _, _, _, _, _] := hH
  replace hH : Hp w w141 _ _ [_, _, _, _, _, _, _, _, _, _] := hH
  refine glo 5 [(6, Pp db3 0), (16, .slice A111 4 c112), (17, .slice A115 rs104.length c116), (18, .slice A130 fs124.length c131), (19, Pp g134 0), (20, .nilIface)] ?_
  refine gl_dn rfl ?_
  refine sw_seq ?_
  refine sw_sr ?_
  refine glo 6 [(6, Pp db3 0), (16, .slice A111 4 c112), (17, .slice A115 rs104.length c116), (18, .slice A130 fs124.length c131), (19, Pp g134 0), (132, .bool false)] ?_
  refine gl_dn rfl ?_
  refine sw_false rfl rfl ?_
  refine sw_skip ?_
  refine sw_next ?_
  refine sw_sr ?_
  refine glo 1 [(6, Pp db3 0), (16, .slice A111 4 c112), (17, .slice A115 rs104.length c116), (18, .slice A130 fs124.length c131), (134, Pp g134 0)] ?_
  refine gl_st (st_call rfl rfl rfl (by kernel_rfl) rfl (What_ct g134 l.c _ es135 _ (hH.blk_cell 7 rfl rfl) (hH.blk_cell 7 rfl rfl) (hH.blk_cell 7 rfl rfl) (hH.blk_cell 7 rfl rfl) (hH.blk_cell 7 rfl rfl) (hL139.row.mono (pz_le hH 8 rfl)) (fun q hq => (hL139.ok q hq).1.d.mono (pz_le hH 8 rfl)) (fun q hq => (hL139.ok q hq).2) (by have h9 := hL139.len; have h8 := hI.cnt; omega)) ?_)
  rintro _ w150 ⟨v143, v144, rs145, rfl, hrs146, hF151⟩
  replace hH := hH.call hF151; clear hF151
  rw [hL139.fst] at hrs146
  obtain ⟨A152, c153, rfl, hl154, hm155⟩ := hH.row_form 10 rfl
  obtain ⟨A156, c157, rfl, hl158, hm159⟩ := hH.row_form 11 rfl
  replace hH : Hp w w150 _ _ [_, _, _, _, _, _, _, _, _, _, _, _, _] := hH
  refine glo 5 [(6, Pp db3 0), (16, .slice A111 4 c112), (17, .slice A115 rs104.length c116), (18, .slice A130 fs124.length c131), (21, .slice A152 4 c153), (22, .slice A156 rs145.length c157)] ?_
  refine gl_dn rfl ?_
  refine sw_sr ?_
  refine glo 4 [(6, Pp db3 0), (18, .slice A130 fs124.length c131), (138, .slice A111 4 c112), (139, .slice A115 rs104.length c116), (140, .slice A152 4 c153), (141, .slice A156 rs145.length c157)] ?_
  refine gl_st (st_call rfl rfl rfl (by kernel_rfl) rfl (Alike_ct _ _ _ _ ((l.c.term : Nat) : Int) ((l.c.vote : Nat) : Int) ((l.c.ix : Nat) : Int) ((l.c.ah : Nat) : Int) ((l.c.term : Nat) : Int) ((l.c.vote : Nat) : Int) ((l.c.ix : Nat) : Int) ((l.c.ah : Nat) : Int) (eiN rs104) (eiN rs145) _ (hH.row_reads 2 rfl) (row_rs (hH.row_reads 3 rfl)) (hH.row_reads 10 rfl) (row_rs (hH.row_reads 11 rfl)) (eiN_rb (enRows_rb hH 4 rfl)) (eiN_rb (enRows_rb hH 12 rfl))) ?_)
  rintro _ w162 ⟨b160, rfl, hb161, hF163⟩
  replace hH := hH.call hF163; clear hF163
  obtain rfl : b160 = true := hb161.2 (⟨⟨rfl, rfl, rfl, rfl⟩, by rw [eiN_fst, eiN_fst, hrs105, hrs146]⟩)
  replace hH : Hp w w162 _ _ [_, _, _, _, _, _, _, _, _, _, _, _, _] := hH
  refine glo 1 [(6, Pp db3 0), (18, .slice A130 fs124.length c131), (23, .bool true)] ?_
  refine gl_dn rfl ?_
  refine sw_sr ?_
  refine glo 4 [(144, .bool true), (145, .slice A130 fs124.length c131), (146, Pp db3 0)] ?_
  replace hH : Hp w w162 _ _ ([_] ++ [_, _, _, _, _, _, _, _, _, _, _, _]) := hH.fr10
  refine gl_st (st_call rfl rfl rfl (by kernel_rfl) rfl (Files_ct db3 mb4 0 D pe138 _ _ hH.mine hR140 hI.good (by omega) (by have := hI.few; omega)) ?_)
  rintro _ w169 ⟨v164, fs165, rfl, hfs166, hF170⟩
  replace hH := hH.turns hF170; clear hF170
  replace hH : Hp w w169 _ _ [_, _, _, _, _, _, _, _, _, _, _, _, _, _, _] := hH
  obtain ⟨A171, c172, rfl, hl173, hm174⟩ := hH.row_form 13 rfl
  replace hH : Hp w w169 _ _ [_, _, _, _, _, _, _, _, _, _, _, _, _, _, _] := hH
  refine gl_st (st_call rfl rfl rfl (by kernel_rfl) rfl (Same18_ct _ _ fs124 fs165 _ (hH.row_reads 5 rfl) (hH.row_reads 13 rfl) (rs_rbs hH 6 rfl) (rs_rbs hH 14 rfl)) ?_)
  rintro _ w177 ⟨bS175, rfl, hbS176, hF178⟩
  replace hH := hH.call hF178; clear hF178
  obtain rfl : bS175 = true := hbS176.2 (hfs125.trans hfs166.symm)
  replace hH : Hp w w177 _ _ [_, _, _, _, _, _, _, _, _, _, _, _, _, _, _] := hH
  refine glo 2 [(4, .bool true)] ?_
  refine gl_dn rfl ?_
  refine sw_ret ?_
  refine ret1 rfl rfl  ?_
  exact ⟨rfl, (hH.sublist sln).fresh⟩
 try simp only [decide_eq_false_iff_not, Int.not_lt, Int.not_le] at hg2
 refine glo 3 [(0, .slice Aa ac.length ca), (1, .slice Ak ks.length ck), (6, Pp db3 0), (7, Pp g 0), (8, .nilIface), (9, Ni i), (44, .bool false)] ?_
 refine gl_dn rfl ?_
 refine sw_false rfl rfl ?_
 refine sw_exit ?_
 refine thX ?_
 refine thX ?_
 refine bkH ?_
 refine sw_next ?_
 refine sw_sr ?_
 refine glo 1 [(1, .slice Ak ks.length ck), (6, Pp db3 0), (113, Pp g 0)] ?_
 refine gl_st (st_call rfl rfl rfl (by kernel_rfl) rfl (What_ct g l.c _ es _ (hH.blk_cell 0 rfl rfl) (hH.blk_cell 0 rfl rfl) (hH.blk_cell 0 rfl rfl) (hH.blk_cell 0 rfl rfl) (hH.blk_cell 0 rfl rfl) (hL.row.mono (pz_le hH 1 rfl)) (fun q hq => (hL.ok q hq).1.d.mono (pz_le hH 1 rfl)) (fun q hq => (hL.ok q hq).2) (by have h9 := hL.len; have h8 := hI.cnt; omega)) ?_)
 rintro _ w186 ⟨v179, v180, rs181, rfl, hrs182, hF187⟩
 replace hH := hH.call hF187; clear hF187
 rw [hL.fst] at hrs182
 obtain ⟨A188, c189, rfl, hl190, hm191⟩ := hH.row_form 3 rfl
 obtain ⟨A192, c193, rfl, hl194, hm195⟩ := hH.row_form 4 rfl
 refine glo 5 [(1, .slice Ak ks.length ck), (6, Pp db3 0), (16, .slice A188 4 c189), (17, .slice A192 rs181.length c193)] ?_
 refine gl_dn rfl ?_
 refine sw_sr ?_
 refine glo 2 [(6, Pp db3 0), (16, .slice A188 4 c189), (17, .slice A192 rs181.length c193), (117, Pp db3 0), (118, .slice Ak ks.length ck)] ?_
 replace hH : Hp w w186 _ _ ([_] ++ [_, _, _, _, _]) := hH.fr3
 refine gl_st (st_call rfl rfl rfl (by kernel_rfl) rfl (by have h9 := Start_ct db3 mb4 0 D pe _ ks _ _ hH.mine (hk.mono hH.zoff) hR hI.good (by omega) (by have := hI.few; omega); rw [hI.start ks] at h9; exact h9) ?_)
 rintro _ w198 ⟨pe196, rfl, hR197, hF199⟩
 replace hH := hH.turns hF199; clear hF199
 replace hH : Hp w w198 _ _ [_, _, _, _, _, _] := hH
 refine gl_dn rfl ?_
 refine sw_sr ?_
 refine glo 1 [(6, Pp db3 0), (16, .slice A188 4 c189), (17, .slice A192 rs181.length c193), (120, Pp db3 0)] ?_
 replace hH : Hp w w198 _ _ ([_] ++ [_, _, _, _, _]) := hH.fr6
 refine gl_st (st_call rfl rfl rfl (by kernel_rfl) rfl (Files_ct db3 mb4 0 D pe196 _ _ hH.mine hR197 hI.good (by omega) (by have := hI.few; omega)) ?_)
 rintro _ w205 ⟨v200, fs201, rfl, hfs202, hF206⟩
 replace hH := hH.turns hF206; clear hF206
 replace hH : Hp w w205 _ _ [_, _, _, _, _, _, _, _] := hH
 obtain ⟨A207, c208, rfl, hl209, hm210⟩ := hH.row_form 6 rfl
 refine glo 1 [(6, Pp db3 0), (16, .slice A188 4 c189), (17, .slice A192 rs181.length c193), (18, .slice A207 fs201.length c208)] ?_
 refine gl_dn rfl ?_
 refine sw_sr ?_
 refine glo 1 [(6, Pp db3 0), (16, .slice A188 4 c189), (17, .slice A192 rs181.length c193), (18, .slice A207 fs201.length c208), (123, Pp db3 0)] ?_
 replace hH : Hp w w205 _ _ ([_] ++ [_, _, _, _, _, _, _]) := hH.fr6
 refine gl_st (st_call rfl rfl rfl (by kernel_rfl) rfl (OpenI_ct (mb := mb4) (ab := 0) (D := D) (l := l) pe196 hH.mine hI (by omega) (by omega) hR197) ?_)
 rintro _ w218 ⟨g211, es212, ve213, pl214, pe215, rfl, ⟨hL216, hR217⟩, hF219⟩
 replace hH := hH.turns hF219; clear hF219
 replace hH : Hp w w218 _ _ [_, _, _, _, _, _, _, _, _, _] := hH
 replace hH : Hp w w218 _ _ [_, _, _, _, _, _, _, _, _, _] := hH
 refine glo 5 [(6, Pp db3 0), (16, .slice A188 4 c189), (17, .slice A192 rs181.length c193), (18, .slice A207 fs201.length c208), (19, Pp g211 0), (20, .nilIface)] ?_
 refine gl_dn rfl ?_
 refine sw_seq ?_
 refine sw_sr ?_
 refine glo 6 [(6, Pp db3 0), (16, .slice A188 4 c189), (17, .slice A192 rs181.length c193), (18, .slice A207 fs201.length c208), (19, Pp g211 0), (132, .bool false)] ?_
 refine gl_dn rfl ?_
 refine sw_false rfl rfl ?_
 refine sw_skip ?_
 refine sw_next ?_
 refine sw_sr ?_
 refine glo 1 [(6, Pp db3 0), (16, .slice A188 4 c189), (17, .slice A192 rs181.length c193), (18, .slice A207 fs201.length c208), (134, Pp g211 0)] ?_
 refine gl_st (st_call rfl rfl rfl (by kernel_rfl) rfl (What_ct g211 l.c _ es212 _ (hH.blk_cell 7 rfl rfl) (hH.blk_cell 7 rfl rfl) (hH.blk_cell 7 rfl rfl) (hH.blk_cell 7 rfl rfl) (hH.blk_cell 7 rfl rfl) (hL216.row.mono (pz_le hH 8 rfl)) (fun q hq => (hL216.ok q hq).1.d.mono (pz_le hH 8 rfl)) (fun q hq => (hL216.ok q hq).2) (by have h9 := hL216.len; have h8 := hI.cnt; omega)) ?_)
 rintro _ w227 ⟨v220, v221, rs222, rfl, hrs223, hF228⟩
 replace hH := hH.call hF228; clear hF228
 rw [hL216.fst] at hrs223
 obtain ⟨A229, c230, rfl, hl231, hm232⟩ := hH.row_form 10 rfl
 obtain ⟨A233, c234, rfl, hl235, hm236⟩ := hH.row_form 11 rfl
 replace hH : Hp w w227 _ _ [_, _, _, _, _, _, _, _, _, _, _, _, _] := hH
 refine glo 5 [(6, Pp db3 0), (16, .slice A188 4 c189), (17, .slice A192 rs181.length c193), (18, .slice A207 fs201.length c208), (21, .slice A229 4 c230), (22, .slice A233 rs222.length c234)] ?_
 refine gl_dn rfl ?_
 refine sw_sr ?_
 refine glo 4 [(6, Pp db3 0), (18, .slice A207 fs201.length c208), (138, .slice A188 4 c189), (139, .slice A192 rs181.length c193), (140, .slice A229 4 c230), (141, .slice A233 rs222.length c234)] ?_
 refine gl_st (st_call rfl rfl rfl (by kernel_rfl) rfl (Alike_ct _ _ _ _ ((l.c.term : Nat) : Int) ((l.c.vote : Nat) : Int) ((l.c.ix : Nat) : Int) ((l.c.ah : Nat) : Int) ((l.c.term : Nat) : Int) ((l.c.vote : Nat) : Int) ((l.c.ix : Nat) : Int) ((l.c.ah : Nat) : Int) (eiN rs181) (eiN rs222) _ (hH.row_reads 2 rfl) (row_rs (hH.row_reads 3 rfl)) (hH.row_reads 10 rfl) (row_rs (hH.row_reads 11 rfl)) (eiN_rb (enRows_rb hH 4 rfl)) (eiN_rb (enRows_rb hH 12 rfl))) ?_)
 rintro _ w239 ⟨b237, rfl, hb238, hF240⟩
 replace hH := hH.call hF240; clear hF240
 obtain rfl : b237 = true := hb238.2 (⟨⟨rfl, rfl, rfl, rfl⟩, by rw [eiN_fst, eiN_fst, hrs182, hrs223]⟩)
 replace hH : Hp w w239 _ _ [_, _, _, _, _, _, _, _, _, _, _, _, _] := hH
 refine glo 1 [(6, Pp db3 0), (18, .slice A207 fs201.length c208), (23, .bool true)] ?_
 refine gl_dn rfl ?_
 refine sw_sr ?_
 refine glo 4 [(144, .bool true), (145, .slice A207 fs201.length c208), (146, Pp db3 0)] ?_
 replace hH : Hp w w239 _ _ ([_] ++ [_, _, _, _, _, _, _, _, _, _, _, _]) := hH.fr10
 refine gl_st (st_call rfl rfl rfl (by kernel_rfl) rfl (Files_ct db3 mb4 0 D pe215 _ _ hH.mine hR217 hI.good (by omega) (by have := hI.few; omega)) ?_)
 rintro _ w246 ⟨v241, fs242, rfl, hfs243, hF247⟩
 replace hH := hH.turns hF247; clear hF247
 replace hH : Hp w w246 _ _ [_, _, _, _, _, _, _, _, _, _, _, _, _, _, _] := hH
 obtain ⟨A248, c249, rfl, hl250, hm251⟩ := hH.row_form 13 rfl
 replace hH : Hp w w246 _ _ [_, _, _, _, _, _, _, _, _, _, _, _, _, _, _] := hH
 refine gl_st (st_call rfl rfl rfl (by kernel_rfl) rfl (Same18_ct _ _ fs201 fs242 _ (hH.row_reads 5 rfl) (hH.row_reads 13 rfl) (rs_rbs hH 6 rfl) (rs_rbs hH 14 rfl)) ?_)
 rintro _ w254 ⟨bS252, rfl, hbS253, hF255⟩
 replace hH := hH.call hF255; clear hF255
 obtain rfl : bS252 = true := hbS253.2 (hfs202.trans hfs243.symm)
 replace hH : Hp w w254 _ _ [_, _, _, _, _, _, _, _, _, _, _, _, _, _, _] := hH
 refine glo 2 [(4, .bool true)] ?_
 refine gl_dn rfl ?_
 refine sw_ret ?_
 refine ret1 rfl rfl  ?_
 exact ⟨rfl, (hH.sublist sln).fresh⟩
end Go.Proofs.YtajapgjemefoiaaGreatDoor
