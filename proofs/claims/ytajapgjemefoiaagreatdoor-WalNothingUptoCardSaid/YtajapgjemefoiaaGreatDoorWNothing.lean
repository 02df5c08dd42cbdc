/- Law 19: nothing is saved where nothing is asked, or too much: the law's walk. -/
import Derived.Test.YtajapgjemefoiaaGreatDoorGi
set_option maxRecDepth 100000
set_option maxHeartbeats 4000000
set_option linter.unusedVariables false
set_option linter.unusedSimpArgs false
namespace Go.Proofs.YtajapgjemefoiaaGreatDoor
open Go.RowKit Go.SW

theorem WalNothing_ct (va : Value) (ac : List AW) (w : World) (hG : w.cell? ⟨0, 0, none⟩ = some errTy) (hA : Row w.cell? va 7 ac.length (rowC awC ac)) (hok : ∀ a ∈ ac, AwOk w.cell? a) (hB : wtW ac ≤ 1048576) :
    Fun Tryz.prog 4 [va] w fun v w' => v = .bool true ∧ Fresh w w' [] := by
 obtain ⟨Aa, ca, rfl, ha1, ha2⟩ := hA.form
 have ha3 := ha2
 simp only [maxLen] at ha3
 refine fun_of_sw Tryz.func4 rfl 135 rfl rfl ?_
 have hH := Hp.start w
 refine sw_sr ?_
 refine glo 1 [(0, .slice Aa ac.length ca)] ?_
 refine gl_dn rfl ?_
 refine sw_sr ?_
 refine gl_st (st_call rfl rfl rfl (by kernel_rfl) rfl (Small19_ct _ (hH.zin _ _ hG)) ?_)
 rintro _ w1 ⟨rfl, hF2⟩
 replace hH := hH.call hF2; clear hF2
 refine glo 1 [(0, .slice Aa ac.length ca), (3, .bool true)] ?_
 refine gl_dn rfl ?_
 refine sw_sr ?_
 refine gl_st (st_call rfl rfl rfl (by kernel_rfl) rfl (DNew_ct _) ?_)
 rintro _ w5 ⟨db3, mb4, rfl, hF6⟩
 replace hH := hH.call hF6; clear hF6
 refine glo 1 [(0, .slice Aa ac.length ca), (3, .bool true), (4, Pp db3 0)] ?_
 refine gl_dn rfl ?_
 refine sw_seq ?_
 refine sw_sr ?_
 refine glo 6 [(0, .slice Aa ac.length ca), (4, Pp db3 0), (25, .bool false)] ?_
 refine gl_dn rfl ?_
 refine sw_false rfl rfl ?_
 refine sw_skip ?_
 refine sw_next ?_
 refine sw_sr ?_
 refine glo 1 [(0, .slice Aa ac.length ca), (4, Pp db3 0), (27, Pp db3 0)] ?_
 replace hH : Hp w w5 _ _ ([_] ++ []) := hH
 refine gl_st (st_call rfl rfl rfl (by kernel_rfl) rfl (OpenNew_ct hH.mine) ?_)
 rintro _ w14 ⟨g7, es8, ve9, pl10, pe11, rfl, ⟨hL12, hR13⟩, hF15⟩
 replace hH := hH.turns hF15; clear hF15
 replace hH : Hp w w14 _ _ [_, _, _] := hH
 refine glo 5 [(0, .slice Aa ac.length ca), (4, Pp db3 0), (5, Pp g7 0), (6, .nilIface)] ?_
 refine gl_dn rfl ?_
 refine sw_seq ?_
 refine sw_sr ?_
 refine glo 6 [(0, .slice Aa ac.length ca), (4, Pp db3 0), (5, Pp g7 0), (36, .bool false)] ?_
 refine gl_dn rfl ?_
 refine sw_false rfl rfl ?_
 refine sw_skip ?_
 refine sw_next ?_
 refine sw_seq ?_
 refine sw_sr ?_
 refine glo 1 [(0, .slice Aa ac.length ca), (4, Pp db3 0), (5, Pp g7 0), (7, .int .i64 0)] ?_
 refine gl_dn rfl ?_
 refine sw_block ?_
 replace hH : Hp w w14 _ _ [_, _, _] := (hH.sublist (slk (slk (slk sln))))
 refine sw_loop (γ := Nat × Dsk × Lg × EQ × Value × Pl × List PE) (fun (i, D, l, es, ve, pl, pe) => [(0, .slice Aa ac.length ca), (4, Pp db3 0), (5, Pp g7 0), (7, Ni i)]) (fun (i, D, l, es, ve, pl, pe) w_ => (i ≤ ac.length) ∧ (i ≤ 60) ∧ (LogI D l i (wtW (ac.take i))) ∧ (CnR pl l.c es ve) ∧ (Rep pe D.fs) ∧ Hp w w_ (w.cell?) [] [lgI g7 db3 l ve, plO pl, dkI db3 mb4 0 D pe]) (fun (i, D, l, es, ve, pl, pe) => ac.length - i) (0, newD, newL, es8, ve9, pl10, pe11) (Sub.of_eq (by kernel_rfl)) ?_ ?_
 · exact ⟨by omega, by omega, logI_new.mono (by omega) (by omega), hL12, hR13, hH⟩
 clear hH
 rintro ⟨i, D, l, es, ve, pl, pe⟩ w16 ⟨hi, hi2, hI, hL, hR, hH⟩
 have hal := wtW_le ac i
 refine swk [(0, .slice Aa ac.length ca), (4, Pp db3 0), (5, Pp g7 0), (7, Ni i)] ?_
 refine sw_seq ?_
 refine sw_sr ?_
 refine glo 2 [(0, .slice Aa ac.length ca), (4, Pp db3 0), (5, Pp g7 0), (7, Ni i), (37, Ni i), (38, .slice Aa ac.length ca)] ?_
 refine gl_q rfl rfl rfl (rd_len (e := 47) (by kernel_rfl) rfl) ?_
 refine glo 2 [(0, .slice Aa ac.length ca), (4, Pp db3 0), (5, Pp g7 0), (7, Ni i), (41, .bool (decide (((i : Nat) : Int) < ((ac.length : Nat) : Int))))] ?_
 refine gl_split 41 (b := decide (((i : Nat) : Int) < ((ac.length : Nat) : Int))) rfl (fun hg3 => ?_) (fun hg3 => ?_)
 ·
  try simp only [decide_eq_true_eq] at hg3
  refine glo 3 [(0, .slice Aa ac.length ca), (4, Pp db3 0), (5, Pp g7 0), (7, Ni i), (44, .bool (decide (((i : Nat) : Int) < (60 : Int))))] ?_
  refine gl_dn rfl ?_
  refine sw_cond rfl rfl (fun hc4 => ?_) (fun hc4 => ?_)
  ·
   try simp only [decide_eq_true_eq] at hc4
   refine sw_skip ?_
   refine sw_next ?_
   refine sw_seq ?_
   refine sw_block ?_
   obtain ⟨a, ha⟩ : ∃ a, ac[i]? = some a := ⟨_, List.getElem?_eq_getElem (by omega)⟩
   have hka := hok a (List.mem_of_getElem? ha)
   have hs1 := wtW_next ha
   have hs2 := wtW_le ac (i + 1)
   have hn9 := hka.n
   have hm9 := hka.m
   refine sw_cut (γ := Nat × Dsk × Lg × EQ × Value × Pl × List PE) (fun (J, D1, l1, es1, ve1, pl1, pe1) => [(0, .slice Aa ac.length ca), (4, Pp db3 0), (5, Pp g7 0), (7, Ni i)]) (fun (J, D1, l1, es1, ve1, pl1, pe1) w_ => (J ≤ i ∨ (J ≤ i + 1 ∧ a.dv = 0)) ∧ (LogI D1 l1 J (wtW (ac.take (i + 1)))) ∧ (CnR pl1 l1.c es1 ve1) ∧ (Rep pe1 D1.fs) ∧ Hp w w_ (w.cell?) [] [lgI g7 db3 l1 ve1, plO pl1, dkI db3 mb4 0 D1 pe1]) ?_ ?_
   ·
    refine sw_sr ?_
    obtain ⟨p17, hi19, hp18⟩ := hA.idx i (by omega) (by decide)
    refine glo 2 [(0, .slice Aa ac.length ca), (4, Pp db3 0), (5, Pp g7 0), (7, Ni i), (47, .slice Aa ac.length ca), (48, Ni i)] ?_
    refine gl_q rfl rfl rfl (rd_idx (e := 47) (m := 7) (by kernel_rfl) (by kernel_rfl) rfl rfl hi19) ?_
    refine glo 1 [(0, .slice Aa ac.length ca), (4, Pp db3 0), (5, Pp g7 0), (7, Ni i), (50, .pointer (some p17))] ?_
    refine gl_q rfl rfl rfl (rd_load (by kernel_rfl) rfl (hH.zin _ _ (hp18 0 _ (by decide) (rowC_at awC_len ha 0 (by decide) rfl)))) ?_
    refine glo 1 [(0, .slice Aa ac.length ca), (4, Pp db3 0), (5, Pp g7 0), (7, Ni i), (52, .bool ((a.dv : Int) == (0 : Int)))] ?_
    refine gl_dn rfl ?_
    refine sw_cond rfl rfl (fun hc5 => ?_) (fun hc5 => ?_)
    ·
     try simp only [beq_iff_eq] at hc5
     refine sw_draw (by kernel_rfl) (fun w_ => Hp w w_ (w.cell?) [] []) ?_
     replace hH := hH.drew
     generalize { w16 with drawn := w16.drawn + 1 } = w20 at hH ⊢
     have hS9 := hH.sublist sln
     obtain ⟨p21, hi23, hp22⟩ := hA.idx i (by omega) (by decide)
     refine gdo 3 [0,1,2] [(0, .slice Aa ac.length ca), (4, Pp db3 0), (5, Pp g7 0), (7, Ni i), (53, Pp g7 0), (54, .slice Aa ac.length ca), (55, Ni i)] hS9 (PQ.th (PQ.bk (PQ.th (PQ.th (PQ.bk (PQ.th PQ.body)))))) ?_
     refine gdq 3 rfl (fun w_ hS => (rd_idx (e := 47) (m := 7) (by kernel_rfl) (by kernel_rfl) rfl rfl hi23)) hS9 (PQ.th (PQ.bk (PQ.th (PQ.th (PQ.bk (PQ.th PQ.body)))))) ?_
     refine gdo 1 [4] [(0, .slice Aa ac.length ca), (4, Pp db3 0), (5, Pp g7 0), (7, Ni i), (53, Pp g7 0), (57, .pointer (some (p21.add 1)))] hS9 (PQ.th (PQ.bk (PQ.th (PQ.th (PQ.bk (PQ.th PQ.body)))))) ?_
     refine gdq 5 rfl (fun w_ hS => (rd_load (by kernel_rfl) rfl (hS.zin _ _ (hp22 1 _ (by decide) (rowC_at awC_len ha 1 (by decide) rfl))))) hS9 (PQ.th (PQ.bk (PQ.th (PQ.th (PQ.bk (PQ.th PQ.body)))))) ?_
     obtain ⟨p24, hi26, hp25⟩ := hA.idx i (by omega) (by decide)
     refine gdo 2 [6,7] [(0, .slice Aa ac.length ca), (4, Pp db3 0), (5, Pp g7 0), (7, Ni i), (53, Pp g7 0), (58, .int .i64 a.n), (59, .slice Aa ac.length ca), (60, Ni i)] hS9 (PQ.th (PQ.bk (PQ.th (PQ.th (PQ.bk (PQ.th PQ.body)))))) ?_
     refine gdq 8 rfl (fun w_ hS => (rd_idx (e := 47) (m := 7) (by kernel_rfl) (by kernel_rfl) rfl rfl hi26)) hS9 (PQ.th (PQ.bk (PQ.th (PQ.th (PQ.bk (PQ.th PQ.body)))))) ?_
     refine gdo 1 [9] [(0, .slice Aa ac.length ca), (4, Pp db3 0), (5, Pp g7 0), (7, Ni i), (53, Pp g7 0), (58, .int .i64 a.n), (62, .pointer (some (p24.add 2)))] hS9 (PQ.th (PQ.bk (PQ.th (PQ.th (PQ.bk (PQ.th PQ.body)))))) ?_
     refine gdq 10 rfl (fun w_ hS => (rd_load (by kernel_rfl) rfl (hS.zin _ _ (hp25 2 _ (by decide) (rowC_at awC_len ha 2 (by decide) rfl))))) hS9 (PQ.th (PQ.bk (PQ.th (PQ.th (PQ.bk (PQ.th PQ.body)))))) ?_
     obtain ⟨p27, hi29, hp28⟩ := hA.idx i (by omega) (by decide)
     refine gdo 2 [11,12] [(0, .slice Aa ac.length ca), (4, Pp db3 0), (5, Pp g7 0), (7, Ni i), (53, Pp g7 0), (58, .int .i64 a.n), (63, .int .i64 a.m), (64, .slice Aa ac.length ca), (65, Ni i)] hS9 (PQ.th (PQ.bk (PQ.th (PQ.th (PQ.bk (PQ.th PQ.body)))))) ?_
     refine gdq 13 rfl (fun w_ hS => (rd_idx (e := 47) (m := 7) (by kernel_rfl) (by kernel_rfl) rfl rfl hi29)) hS9 (PQ.th (PQ.bk (PQ.th (PQ.th (PQ.bk (PQ.th PQ.body)))))) ?_
     refine gdo 1 [14] [(0, .slice Aa ac.length ca), (4, Pp db3 0), (5, Pp g7 0), (7, Ni i), (53, Pp g7 0), (58, .int .i64 a.n), (63, .int .i64 a.m), (67, .pointer (some (p27.add 3)))] hS9 (PQ.th (PQ.bk (PQ.th (PQ.th (PQ.bk (PQ.th PQ.body)))))) ?_
     refine gdq 15 rfl (fun w_ hS => (rd_load (by kernel_rfl) rfl (hS.zin _ _ (hp28 3 _ (by decide) (rowC_at awC_len ha 3 (by decide) rfl))))) hS9 (PQ.th (PQ.bk (PQ.th (PQ.th (PQ.bk (PQ.th PQ.body)))))) ?_
     replace hH : Hp w w20 _ _ ([_, _, _] ++ []) := hH
     refine gds 16 (st_call rfl rfl rfl (by kernel_rfl) rfl (SaveI_ct g7 a.n a.m _ _ es a.L pl pe hH.mine hI (by omega) (by omega) hL (hka.row.mono hH.zoff) (fun q hq => (hka.rb q hq).mono hH.zoff) hka.ok (by omega) (by omega) hR) ?_)
     rintro _ w41 ⟨D30, l31, er32, es33, ve34, pl35, pe36, rfl, ⟨hs37, hI38, hL39, hR40⟩, hF42⟩
     replace hH := hH.turns hF42; clear hF42
     replace hH : Hp w w41 _ _ [_, _, _] := hH
     replace hS9 := hH.sublist sln
     refine ⟨hS9, ?_⟩
     refine gdn [(0, .slice Aa ac.length ca), (4, Pp db3 0), (5, Pp g7 0), (7, Ni i)] ?_
     refine cut_end (i + 1, D30, l31, es33, ve34, pl35, pe36) (Sub.of_eq (by kernel_rfl)) ?_
     replace hH : Hp w w41 _ _ [_, _, _] := (hH.sublist (slk (slk (slk sln))))
     exact ⟨by omega, hI38.mono (by omega) (by omega), hL39, hR40, hH⟩
    try simp only [beq_eq_false_iff_ne, ne_eq] at hc5
    refine sw_skip ?_
    refine cut_end (i, D, l, es, ve, pl, pe) (Sub.of_eq (by kernel_rfl)) ?_
    replace hH : Hp w w16 _ _ [_, _, _] := (hH.sublist (slk (slk (slk sln))))
    exact ⟨by omega, hI.mono (by omega) (by omega), hL, hR, hH⟩
   clear hH
   rintro ⟨J, D1, l1, es1, ve1, pl1, pe1⟩ w43 ⟨hJ, hI1, hL1, hR1, hH⟩
   refine swk [(0, .slice Aa ac.length ca), (4, Pp db3 0), (5, Pp g7 0), (7, Ni i)] ?_
   refine sw_cut (γ := Dsk × Lg × EQ × Value × Pl × List PE) (fun (D2, l2, es2, ve2, pl2, pe2) => [(0, .slice Aa ac.length ca), (4, Pp db3 0), (5, Pp g7 0), (7, Ni i)]) (fun (D2, l2, es2, ve2, pl2, pe2) w_ => (LogI D2 l2 (i + 1) (wtW (ac.take (i + 1)))) ∧ (CnR pl2 l2.c es2 ve2) ∧ (Rep pe2 D2.fs) ∧ Hp w w_ (w.cell?) [] [lgI g7 db3 l2 ve2, plO pl2, dkI db3 mb4 0 D2 pe2]) ?_ ?_
   ·
    refine sw_sr ?_
    obtain ⟨p44, hi46, hp45⟩ := hA.idx i (by omega) (by decide)
    refine glo 2 [(0, .slice Aa ac.length ca), (4, Pp db3 0), (5, Pp g7 0), (7, Ni i), (70, .slice Aa ac.length ca), (71, Ni i)] ?_
    refine gl_q rfl rfl rfl (rd_idx (e := 47) (m := 7) (by kernel_rfl) (by kernel_rfl) rfl rfl hi46) ?_
    refine glo 1 [(0, .slice Aa ac.length ca), (4, Pp db3 0), (5, Pp g7 0), (7, Ni i), (73, .pointer (some p44))] ?_
    refine gl_q rfl rfl rfl (rd_load (by kernel_rfl) rfl (hH.zin _ _ (hp45 0 _ (by decide) (rowC_at awC_len ha 0 (by decide) rfl)))) ?_
    refine glo 1 [(0, .slice Aa ac.length ca), (4, Pp db3 0), (5, Pp g7 0), (7, Ni i), (75, .bool ((a.dv : Int) == (1 : Int)))] ?_
    refine gl_dn rfl ?_
    refine sw_cond rfl rfl (fun hc6 => ?_) (fun hc6 => ?_)
    ·
     try simp only [beq_iff_eq] at hc6
     refine sw_draw (by kernel_rfl) (fun w_ => Hp w w_ (w.cell?) [] []) ?_
     replace hH := hH.drew
     generalize { w43 with drawn := w43.drawn + 1 } = w47 at hH ⊢
     have hS9 := hH.sublist sln
     obtain ⟨p48, hi50, hp49⟩ := hA.idx i (by omega) (by decide)
     refine gdo 3 [0,1,2] [(0, .slice Aa ac.length ca), (4, Pp db3 0), (5, Pp g7 0), (7, Ni i), (76, Pp g7 0), (77, .slice Aa ac.length ca), (78, Ni i)] hS9 (PQ.th (PQ.bk (PQ.th (PQ.th (PQ.bk (PQ.th PQ.body)))))) ?_
     refine gdq 3 rfl (fun w_ hS => (rd_idx (e := 47) (m := 7) (by kernel_rfl) (by kernel_rfl) rfl rfl hi50)) hS9 (PQ.th (PQ.bk (PQ.th (PQ.th (PQ.bk (PQ.th PQ.body)))))) ?_
     refine gdo 1 [4] [(0, .slice Aa ac.length ca), (4, Pp db3 0), (5, Pp g7 0), (7, Ni i), (76, Pp g7 0), (80, .pointer (some (p48.add 1)))] hS9 (PQ.th (PQ.bk (PQ.th (PQ.th (PQ.bk (PQ.th PQ.body)))))) ?_
     refine gdq 5 rfl (fun w_ hS => (rd_load (by kernel_rfl) rfl (hS.zin _ _ (hp49 1 _ (by decide) (rowC_at awC_len ha 1 (by decide) rfl))))) hS9 (PQ.th (PQ.bk (PQ.th (PQ.th (PQ.bk (PQ.th PQ.body)))))) ?_
     obtain ⟨p51, hi53, hp52⟩ := hA.idx i (by omega) (by decide)
     refine gdo 2 [6,7] [(0, .slice Aa ac.length ca), (4, Pp db3 0), (5, Pp g7 0), (7, Ni i), (76, Pp g7 0), (81, .int .i64 a.n), (82, .slice Aa ac.length ca), (83, Ni i)] hS9 (PQ.th (PQ.bk (PQ.th (PQ.th (PQ.bk (PQ.th PQ.body)))))) ?_
     refine gdq 8 rfl (fun w_ hS => (rd_idx (e := 47) (m := 7) (by kernel_rfl) (by kernel_rfl) rfl rfl hi53)) hS9 (PQ.th (PQ.bk (PQ.th (PQ.th (PQ.bk (PQ.th PQ.body)))))) ?_
     refine gdo 1 [9] [(0, .slice Aa ac.length ca), (4, Pp db3 0), (5, Pp g7 0), (7, Ni i), (76, Pp g7 0), (81, .int .i64 a.n), (85, .pointer (some (p51.add 2)))] hS9 (PQ.th (PQ.bk (PQ.th (PQ.th (PQ.bk (PQ.th PQ.body)))))) ?_
     refine gdq 10 rfl (fun w_ hS => (rd_load (by kernel_rfl) rfl (hS.zin _ _ (hp52 2 _ (by decide) (rowC_at awC_len ha 2 (by decide) rfl))))) hS9 (PQ.th (PQ.bk (PQ.th (PQ.th (PQ.bk (PQ.th PQ.body)))))) ?_
     replace hH : Hp w w47 _ _ ([_, _, _] ++ []) := hH
     refine gds 11 (st_call rfl rfl rfl (by kernel_rfl) rfl (CompactI_ct g7 a.n a.m _ es1 pl1 pe1 hH.mine hI1 (by omega) (by omega) hL1 (by omega) (by omega) hR1) ?_)
     rintro _ w65 ⟨D54, l55, er56, es57, ve58, pl59, pe60, rfl, ⟨hs61, hI62, hL63, hR64⟩, hF66⟩
     replace hH := hH.turns hF66; clear hF66
     replace hH : Hp w w65 _ _ [_, _, _] := hH
     replace hS9 := hH.sublist sln
     refine ⟨hS9, ?_⟩
     refine gdn [(0, .slice Aa ac.length ca), (4, Pp db3 0), (5, Pp g7 0), (7, Ni i)] ?_
     refine cut_end (D54, l55, es57, ve58, pl59, pe60) (Sub.of_eq (by kernel_rfl)) ?_
     replace hH : Hp w w65 _ _ [_, _, _] := (hH.sublist (slk (slk (slk sln))))
     exact ⟨hI62.mono (by omega) (by omega), hL63, hR64, hH⟩
    try simp only [beq_eq_false_iff_ne, ne_eq] at hc6
    refine sw_skip ?_
    refine cut_end (D1, l1, es1, ve1, pl1, pe1) (Sub.of_eq (by kernel_rfl)) ?_
    replace hH : Hp w w43 _ _ [_, _, _] := (hH.sublist (slk (slk (slk sln))))
    exact ⟨hI1.mono (by omega) (by omega), hL1, hR1, hH⟩
   clear hH
   rintro ⟨D2, l2, es2, ve2, pl2, pe2⟩ w67 ⟨hI2, hL2, hR2, hH⟩
   refine swk [(0, .slice Aa ac.length ca), (4, Pp db3 0), (5, Pp g7 0), (7, Ni i)] ?_
   refine sw_sr ?_
   refine glo 1 [(0, .slice Aa ac.length ca), (4, Pp db3 0), (5, Pp g7 0), (7, Ni i), (88, Pp db3 0)] ?_
   replace hH : Hp w w67 _ _ ([_] ++ [_, _]) := hH.fr3
   refine gl_st (st_call rfl rfl rfl (by kernel_rfl) rfl (Files_ct db3 mb4 0 D2 pe2 _ _ hH.mine hR2 hI2.good (by omega) (by have := hI2.few; omega)) ?_)
   rintro _ w73 ⟨v68, fs69, rfl, hfs70, hF74⟩
   replace hH := hH.turns hF74; clear hF74
   replace hH : Hp w w73 _ _ [_, _, _, _, _] := hH
   obtain ⟨A75, c76, rfl, hl77, hm78⟩ := hH.row_form 3 rfl
   refine glo 1 [(0, .slice Aa ac.length ca), (4, Pp db3 0), (5, Pp g7 0), (7, Ni i), (8, .slice A75 fs69.length c76)] ?_
   refine gl_dn rfl ?_
   refine sw_sr ?_
   refine glo 1 [(0, .slice Aa ac.length ca), (4, Pp db3 0), (5, Pp g7 0), (7, Ni i), (8, .slice A75 fs69.length c76), (91, Pp g7 0)] ?_
   refine gl_st (st_call rfl rfl rfl (by kernel_rfl) rfl (What_ct g7 l2.c _ es2 _ (hH.blk_cell 0 rfl rfl) (hH.blk_cell 0 rfl rfl) (hH.blk_cell 0 rfl rfl) (hH.blk_cell 0 rfl rfl) (hH.blk_cell 0 rfl rfl) (hL2.row.mono (pz_le hH 1 rfl)) (fun q hq => (hL2.ok q hq).1.d.mono (pz_le hH 1 rfl)) (fun q hq => (hL2.ok q hq).2) (by have h9 := hL2.len; have h8 := hI2.cnt; omega)) ?_)
   rintro _ w86 ⟨v79, v80, rs81, rfl, hrs82, hF87⟩
   replace hH := hH.call hF87; clear hF87
   rw [hL2.fst] at hrs82
   obtain ⟨A88, c89, rfl, hl90, hm91⟩ := hH.row_form 5 rfl
   obtain ⟨A92, c93, rfl, hl94, hm95⟩ := hH.row_form 6 rfl
   refine glo 5 [(0, .slice Aa ac.length ca), (4, Pp db3 0), (5, Pp g7 0), (7, Ni i), (8, .slice A75 fs69.length c76), (9, .slice A88 4 c89), (10, .slice A92 rs81.length c93)] ?_
   refine gl_dn rfl ?_
   refine sw_sr ?_
   refine glo 1 [(0, .slice Aa ac.length ca), (4, Pp db3 0), (5, Pp g7 0), (7, Ni i), (8, .slice A75 fs69.length c76), (9, .slice A88 4 c89), (10, .slice A92 rs81.length c93), (96, Pp g7 0)] ?_
   refine gl_st (st_call rfl rfl rfl (by kernel_rfl) rfl (State_ct g7 l2.c.term l2.c.vote _ (hH.blk_cell 0 rfl rfl) (hH.blk_cell 0 rfl rfl)) ?_)
   rintro _ w96 ⟨rfl, hF97⟩
   replace hH := hH.call hF97; clear hF97
   refine glo 5 [(0, .slice Aa ac.length ca), (4, Pp db3 0), (5, Pp g7 0), (7, Ni i), (8, .slice A75 fs69.length c76), (9, .slice A88 4 c89), (10, .slice A92 rs81.length c93), (11, Ni l2.c.term), (12, Ni l2.c.vote)] ?_
   refine gl_dn rfl ?_
   refine sw_sr ?_
   refine glo 3 [(0, .slice Aa ac.length ca), (4, Pp db3 0), (5, Pp g7 0), (7, Ni i), (8, .slice A75 fs69.length c76), (9, .slice A88 4 c89), (10, .slice A92 rs81.length c93), (12, Ni l2.c.vote), (100, Pp g7 0), (101, Ni l2.c.term), (102, Ni l2.c.vote)] ?_
   replace hH : Hp w w96 _ _ ([_, _, _] ++ [_, _, _, _, _]) := hH
   refine gl_st (st_call rfl rfl rfl (by kernel_rfl) rfl (Save0_ct g7 ((l2.c.term : Nat) : Int) ((l2.c.vote : Nat) : Int) 0 ve2 es2 pl2 pe2 hH.mine hI2 (by omega) (by omega) hL2 (by have := hI2.cn.term; omega) (by have := hI2.cn.vote; omega) hR2 (save_same hI2)) ?_)
   rintro _ w104 ⟨es98, ve99, pl100, pe101, rfl, ⟨hL102, hR103⟩, hF105⟩
   replace hH := hH.turns hF105; clear hF105
   replace hH : Hp w w104 _ _ [_, _, _, _, _, _, _, _] := hH
   refine glo 1 [(0, .slice Aa ac.length ca), (4, Pp db3 0), (5, Pp g7 0), (7, Ni i), (8, .slice A75 fs69.length c76), (9, .slice A88 4 c89), (10, .slice A92 rs81.length c93), (12, Ni l2.c.vote), (13, .nilIface)] ?_
   refine gl_dn rfl ?_
   refine sw_sr ?_
   refine glo 2 [(0, .slice Aa ac.length ca), (4, Pp db3 0), (5, Pp g7 0), (7, Ni i), (8, .slice A75 fs69.length c76), (9, .slice A88 4 c89), (10, .slice A92 rs81.length c93), (13, .nilIface), (104, Pp g7 0), (105, Ni l2.c.vote)] ?_
   replace hH : Hp w w104 _ _ ([_, _, _] ++ [_, _, _, _, _]) := hH.fr8.fr8.fr8
   refine gl_st (st_call rfl rfl rfl (by kernel_rfl) rfl (Save0_ct g7 (-1) ((l2.c.vote : Nat) : Int) 1 ve99 es98 pl100 pe101 hH.mine hI2 (by omega) (by omega) hL102 (by have := hI2.cn.term; omega) (by have := hI2.cn.vote; omega) hR103 (save_minus hI2 _)) ?_)
   rintro _ w112 ⟨es106, ve107, pl108, pe109, rfl, ⟨hL110, hR111⟩, hF113⟩
   replace hH := hH.turns hF113; clear hF113
   replace hH : Hp w w112 _ _ [_, _, _, _, _, _, _, _] := hH
   refine glo 1 [(0, .slice Aa ac.length ca), (4, Pp db3 0), (5, Pp g7 0), (7, Ni i), (8, .slice A75 fs69.length c76), (9, .slice A88 4 c89), (10, .slice A92 rs81.length c93), (13, .nilIface), (14, errV 1)] ?_
   refine gl_dn rfl ?_
   refine sw_sr ?_
   refine glo 1 [(0, .slice Aa ac.length ca), (4, Pp db3 0), (5, Pp g7 0), (7, Ni i), (8, .slice A75 fs69.length c76), (9, .slice A88 4 c89), (10, .slice A92 rs81.length c93), (13, .nilIface), (14, errV 1), (108, Pp g7 0)] ?_
   refine gl_st (st_call rfl rfl rfl (by kernel_rfl) rfl (What_ct g7 l2.c _ es106 _ (hH.blk_cell 5 rfl rfl) (hH.blk_cell 5 rfl rfl) (hH.blk_cell 5 rfl rfl) (hH.blk_cell 5 rfl rfl) (hH.blk_cell 5 rfl rfl) (hL110.row.mono (pz_le hH 6 rfl)) (fun q hq => (hL110.ok q hq).1.d.mono (pz_le hH 6 rfl)) (fun q hq => (hL110.ok q hq).2) (by have h9 := hL110.len; have h8 := hI2.cnt; omega)) ?_)
   rintro _ w121 ⟨v114, v115, rs116, rfl, hrs117, hF122⟩
   replace hH := hH.call hF122; clear hF122
   rw [hL110.fst] at hrs117
   obtain ⟨A123, c124, rfl, hl125, hm126⟩ := hH.row_form 8 rfl
   obtain ⟨A127, c128, rfl, hl129, hm130⟩ := hH.row_form 9 rfl
   replace hH : Hp w w121 _ _ [_, _, _, _, _, _, _, _, _, _, _] := hH
   refine glo 5 [(0, .slice Aa ac.length ca), (4, Pp db3 0), (5, Pp g7 0), (7, Ni i), (8, .slice A75 fs69.length c76), (9, .slice A88 4 c89), (10, .slice A92 rs81.length c93), (13, .nilIface), (14, errV 1), (15, .slice A123 4 c124), (16, .slice A127 rs116.length c128)] ?_
   refine gl_dn rfl ?_
   refine sw_sr ?_
   refine glo 4 [(0, .slice Aa ac.length ca), (4, Pp db3 0), (5, Pp g7 0), (7, Ni i), (8, .slice A75 fs69.length c76), (13, .nilIface), (14, errV 1), (112, .slice A88 4 c89), (113, .slice A92 rs81.length c93), (114, .slice A123 4 c124), (115, .slice A127 rs116.length c128)] ?_
   refine gl_st (st_call rfl rfl rfl (by kernel_rfl) rfl (Alike_ct _ _ _ _ ((l2.c.term : Nat) : Int) ((l2.c.vote : Nat) : Int) ((l2.c.ix : Nat) : Int) ((l2.c.ah : Nat) : Int) ((l2.c.term : Nat) : Int) ((l2.c.vote : Nat) : Int) ((l2.c.ix : Nat) : Int) ((l2.c.ah : Nat) : Int) (eiN rs81) (eiN rs116) _ (hH.row_reads 2 rfl) (row_rs (hH.row_reads 3 rfl)) (hH.row_reads 8 rfl) (row_rs (hH.row_reads 9 rfl)) (eiN_rb (enRows_rb hH 4 rfl)) (eiN_rb (enRows_rb hH 10 rfl))) ?_)
   rintro _ w133 ⟨b131, rfl, hb132, hF134⟩
   replace hH := hH.call hF134; clear hF134
   obtain rfl : b131 = true := hb132.2 (⟨⟨rfl, rfl, rfl, rfl⟩, by rw [eiN_fst, eiN_fst, hrs82, hrs117]⟩)
   replace hH : Hp w w133 _ _ [_, _, _, _, _, _, _, _, _, _, _] := hH
   refine glo 1 [(0, .slice Aa ac.length ca), (4, Pp db3 0), (5, Pp g7 0), (7, Ni i), (8, .slice A75 fs69.length c76), (13, .nilIface), (14, errV 1), (17, .bool true)] ?_
   refine gl_dn rfl ?_
   refine sw_sr ?_
   refine glo 4 [(0, .slice Aa ac.length ca), (4, Pp db3 0), (5, Pp g7 0), (7, Ni i), (8, .slice A75 fs69.length c76), (17, .bool true), (119, .bool false), (120, errV 1)] ?_
   refine gl_st (st_call rfl rfl rfl (by kernel_rfl) rfl (Code_ct 1 _ (hH.zin _ _ hG)) ?_)
   rintro _ w135 ⟨rfl, hF136⟩
   replace hH := hH.call hF136; clear hF136
   replace hH : Hp w w135 _ _ [_, _, _, _, _, _, _, _, _, _, _] := hH
   refine glo 9 [(0, .slice Aa ac.length ca), (4, Pp db3 0), (5, Pp g7 0), (7, Ni i), (128, .bool false), (129, .slice A75 fs69.length c76), (130, Pp db3 0)] ?_
   replace hH : Hp w w135 _ _ ([_] ++ [_, _, _, _, _, _, _, _, _, _]) := hH.fr8
   refine gl_st (st_call rfl rfl rfl (by kernel_rfl) rfl (Files_ct db3 mb4 0 D2 pe109 _ _ hH.mine hR111 hI2.good (by omega) (by have := hI2.few; omega)) ?_)
   rintro _ w142 ⟨v137, fs138, rfl, hfs139, hF143⟩
   replace hH := hH.turns hF143; clear hF143
   replace hH : Hp w w142 _ _ [_, _, _, _, _, _, _, _, _, _, _, _, _] := hH
   obtain ⟨A144, c145, rfl, hl146, hm147⟩ := hH.row_form 11 rfl
   replace hH : Hp w w142 _ _ [_, _, _, _, _, _, _, _, _, _, _, _, _] := hH
   refine gl_st (st_call rfl rfl rfl (by kernel_rfl) rfl (Same18_ct _ _ fs69 fs138 _ (hH.row_reads 0 rfl) (hH.row_reads 11 rfl) (rs_rbs hH 1 rfl) (rs_rbs hH 12 rfl)) ?_)
   rintro _ w150 ⟨bS148, rfl, hbS149, hF151⟩
   replace hH := hH.call hF151; clear hF151
   obtain rfl : bS148 = true := hbS149.2 (hfs70.trans hfs139.symm)
   replace hH : Hp w w150 _ _ [_, _, _, _, _, _, _, _, _, _, _, _, _] := hH
   refine glo 2 [(0, .slice Aa ac.length ca), (4, Pp db3 0), (5, Pp g7 0), (7, Ni i), (134, .bool false)] ?_
   refine gl_dn rfl ?_
   refine sw_false rfl rfl ?_
   refine sw_skip ?_
   refine bkN ?_
   refine sw_next ?_
   refine sw_region ?_
   refine glo 2 [(0, .slice Aa ac.length ca), (4, Pp db3 0), (5, Pp g7 0), (46, .int .i64 (IntKind.i64.wrap (((i : Nat) : Int) + 1)))] ?_
   refine gl_cv 46 (Ni (i + 1)) (cv_i64 (by omega)) rfl ?_
   refine glo 1 [(0, .slice Aa ac.length ca), (4, Pp db3 0), (5, Pp g7 0), (7, Ni (i + 1))] ?_
   refine gl_done rfl ?_
   refine rnd_end (g := (i, D, l, es, ve, pl, pe)) (i + 1, D2, l2, es106, ve107, pl108, pe109) (by kernel_rfl) ?_ ?_
   replace hH := hH.fr11.fr8.fr8
   replace hH : Hp w w150 _ _ [_, _, _] := (hH.sublist (slk (slk (slk sln))))
   · exact ⟨by omega, by omega, hI2.mono (by omega) (by omega), hL110, hR111, hH⟩
   · show ac.length - (i + 1) < ac.length - i; omega
  try simp only [decide_eq_false_iff_not, Int.not_lt, Int.not_le] at hc4
  refine sw_exit ?_
  refine thX ?_
  refine thX ?_
  refine bkH ?_
  refine sw_next ?_
  refine sw_sr ?_
  refine glo 1 [(2, .bool true)] ?_
  refine gl_dn rfl ?_
  refine sw_ret ?_
  refine ret1 rfl rfl  ?_
  exact ⟨rfl, (hH.sublist sln).fresh⟩
 try simp only [decide_eq_false_iff_not, Int.not_lt, Int.not_le] at hg3
 refine glo 3 [(0, .slice Aa ac.length ca), (4, Pp db3 0), (5, Pp g7 0), (7, Ni i), (44, .bool false)] ?_
 refine gl_dn rfl ?_
 refine sw_false rfl rfl ?_
 refine sw_exit ?_
 refine thX ?_
 refine thX ?_
 refine bkH ?_
 refine sw_next ?_
 refine sw_sr ?_
 refine glo 1 [(2, .bool true)] ?_
 refine gl_dn rfl ?_
 refine sw_ret ?_
 refine ret1 rfl rfl  ?_
 exact ⟨rfl, (hH.sublist sln).fresh⟩
end Go.Proofs.YtajapgjemefoiaaGreatDoor
