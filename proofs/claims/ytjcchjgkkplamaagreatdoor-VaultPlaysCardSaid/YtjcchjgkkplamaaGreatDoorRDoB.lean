/- Layer 18 (disk), the document's own: Do: Put, Remove: what it answers. -/
import Derived.Test.YtjcchjgkkplamaaGreatDoorRDisk2
set_option maxRecDepth 100000
set_option maxHeartbeats 4000000
set_option linter.unusedVariables false
set_option linter.unusedSimpArgs false
namespace Go.Proofs.YtjcchjgkkplamaaGreatDoor
open Go.RowKit Go.SW

theorem RDo2_ct (xb : Nat) (rv : Value) (D : Dsk) (part : Int) (L : FV) (nm : List UInt8) (vp : Value) (p : List UInt8) (n : Int) (M : Nat) (w : World) (hM : Mine w (ownR xb rv D part L)) (hF : L.map (·.1) = D.fs) (hA : ArOk D.ar) (hP : PartOk D.ar part) (hG : Good D.fs M) (hMM : M ≤ 140737488355328) (hN : L.length ≤ 900000) (hs : nm.length ≤ 140737488355328) (hp : RB (off w (blksOf (ownR xb rv D part L))) vp p) (hpl : p.length ≤ 140737488355328) :
    Fun Tryz.prog 18 [.pointer (some ⟨xb, 0, none⟩), .int .i64 2, .string (bs nm), vp, .int .i64 n] w fun v w' => RPost xb rv D part L (doD D 2 nm p n) w v w' := by
  obtain ⟨Ar, cr, rfl, hcr1, hcr2⟩ := (Row.of_own (hM.1 _ (List.mem_singleton.2 rfl) (lstO rv L) (by simp [rdkO]))).form
  have hcr3 := hcr2
  simp only [maxLen] at hcr3
  have hV : SlQ L := filRs_sl (hM.1 _ (List.mem_singleton.2 rfl) (filRs L) (by simp [rdkO]))
  obtain ⟨Ap, cp, rfl, hp1, hp2⟩ := hp.row.form
  refine fun_of_sw Tryz.func18 rfl 132 rfl rfl ?_
  have hH : Hp w w (off w (blksOf (ownR xb (.slice Ar L.length cr) D part L))) (blksOf (ownR xb (.slice Ar L.length cr) D part L)) (rdkO xb (.slice Ar L.length cr) D.off (actsI D.ar) part L ++ []) := (Hp.start_mine hM).open_
  replace hH : Hp w w _ _ [.blk xb 55 [.slice Ar L.length cr, .bool D.off, .int .i64 (actsI D.ar), .int .i64 part], .row (.slice Ar L.length cr) 93 3 L.length (rowC filC L), filRs L] := hH
  refine sw_sr ?_
  refine gl_ops 1 [(0, Pp xb 0), (1, .int .i64 2), (2, .string (bs nm)), (3, .slice Ap p.length cp), (4, .int .i64 n)] (by kernel_rfl) ?_
  refine gl_dn rfl ?_
  refine sw_sr ?_
  refine gl_ops 8 [(0, Pp xb 0), (1, .int .i64 2), (2, .string (bs nm)), (3, .slice Ap p.length cp), (4, .int .i64 n), (16, Pp xb 0), (17, .string (bs nm)), (23, .bool false)] (by kernel_rfl) ?_
  refine gl_st (st_call rfl rfl rfl (by kernel_rfl) rfl (RMay18_ct xb _ L D nm false _ (hH.blk_cell 0 rfl rfl) (hH.blk_cell 0 rfl rfl) (hH.row_reads 1 rfl) hF hs) ?_)
  rintro _ w1 ⟨rfl, hF2⟩
  replace hH := hH.call hF2; clear hF2
  refine gl_ops 1 [(0, Pp xb 0), (1, .int .i64 2), (2, .string (bs nm)), (3, .slice Ap p.length cp), (4, .int .i64 n), (11, Ni (mayE D nm false))] (by kernel_rfl) ?_
  refine gl_dn rfl ?_
  refine sw_seq ?_
  refine sw_sr ?_
  refine gl_ops 2 [(0, Pp xb 0), (1, .int .i64 2), (2, .string (bs nm)), (3, .slice Ap p.length cp), (4, .int .i64 n), (11, Ni (mayE D nm false)), (26, .bool (((mayE D nm false : Nat) : Int) != (0 : Int)))] (by kernel_rfl) ?_
  refine gl_dn rfl ?_
  refine sw_cond rfl rfl (fun hc1 => ?_) (fun hc1 => ?_)
  ·
    try simp only [bne_iff_ne, ne_eq] at hc1
    refine sw_sr ?_
    refine gl_ops 2 [(10, Ni (mayE D nm false))] (by kernel_rfl) ?_
    refine gl_dn rfl ?_
    refine sw_ret ?_
    refine thR ?_
    refine ret1 rfl rfl  ?_
    replace hH := (hH.sublist (.cons_cons _ (.cons_cons _ (.cons_cons _ (List.nil_sublist _)))))
    replace hH : Hp w w1 _ _ [.blk xb 55 [.slice Ar L.length cr, .bool D.off, .int .i64 (actsI D.ar), .int .i64 part], .row (.slice Ar L.length cr) 93 3 L.length (rowC filC L), filRs L] := hH
    exact rfin_err (kind := 2) (th := false) hF rfl (by omega) ((hH.close (r := [])).turned)
  try simp only [bne_eq_false_iff_eq] at hc1
  have hm0 : mayE D nm false = 0 := by omega
  refine sw_skip ?_
  refine sw_next ?_
  refine sw_sr ?_
  refine gl_ops 2 [(0, Pp xb 0), (1, .int .i64 2), (2, .string (bs nm)), (3, .slice Ap p.length cp), (4, .int .i64 n), (29, .agg #[.string (bs nm), .slice none 0 0, .int .i64 0])] (by kernel_rfl) ?_
  refine gl_st (st_allocH rfl rfl rfl (cs := [.string (bs []), .slice none 0 0, .int .i64 0]) (by kernel_rfl) hH ?_)
  clear hH; intro b3 w4 hH
  refine gl_st (st_storeKA (vs := [.string (bs nm), .slice none 0 0, .int .i64 0]) 3 rfl rfl rfl hH rfl rfl (by kernel_rfl) (by kernel_rfl) rfl (by simp) [.string (bs nm), .slice none 0 0, .int .i64 0] rfl ?_)
  clear hH; intro w5 hH
  refine gl_dn rfl ?_
  refine sw_sr ?_
  refine gl_ops 2 [(0, Pp xb 0), (1, .int .i64 2), (2, .string (bs nm)), (3, .slice Ap p.length cp), (4, .int .i64 n), (12, Pp b3 0), (30, Pp xb 0), (31, .string (bs nm))] (by kernel_rfl) ?_
  refine gl_st (st_call rfl rfl rfl (by kernel_rfl) rfl (RFind_ct xb _ L nm _ (hH.blk_cell 0 rfl rfl) (hH.row_reads 1 rfl)) ?_)
  rintro _ w6 ⟨rfl, hF7⟩
  replace hH := hH.call hF7; clear hF7
  refine gl_ops 1 [(0, Pp xb 0), (1, .int .i64 2), (2, .string (bs nm)), (3, .slice Ap p.length cp), (4, .int .i64 n), (12, Pp b3 0), (13, .int .i64 (fndZ L nm))] (by kernel_rfl) ?_
  refine gl_dn rfl ?_
  refine sw_seq ?_
  refine sw_sr ?_
  refine gl_ops 2 [(0, Pp xb 0), (1, .int .i64 2), (2, .string (bs nm)), (3, .slice Ap p.length cp), (4, .int .i64 n), (12, Pp b3 0), (13, .int .i64 (fndZ L nm)), (34, .bool (decide ((fndZ L nm) ≥ (0 : Int))))] (by kernel_rfl) ?_
  refine gl_dn rfl ?_
  refine sw_cond rfl rfl (fun hc2 => ?_) (fun hc2 => ?_)
  ·
    try simp only [decide_eq_true_eq] at hc2
    have hlt : fndI L nm < L.length := by refine Classical.byContradiction fun h9 => ?_; unfold fndZ at hc2; rw [if_neg h9] at hc2; omega
    obtain ⟨b, sr, fv, hq, hold, hmem⟩ := rdk_find hF hlt
    obtain ⟨Af, cf, rfl, hf1, hf2⟩ := (filRs_rb3 hH 2 rfl hq).row.form
    have hbM := hG.short _ hmem
    have hsr := hG.sure _ hmem
    simp only at hbM hsr
    refine sw_cv 13 (Ni (fndI L nm)) (by unfold fndZ; rw [if_pos hlt]) rfl ?_
    refine sw_region ?_
    refine gl_ops 3 [(0, Pp xb 0), (1, .int .i64 2), (2, .string (bs nm)), (3, .slice Ap p.length cp), (4, .int .i64 n), (12, Pp b3 0), (13, Ni (fndI L nm)), (37, Pp xb 0)] (by kernel_rfl) ?_
    refine gl_q rfl rfl rfl (rd_loadK 0 (by kernel_rfl) hH rfl rfl rfl) ?_
    obtain ⟨b9, hb8, hi10⟩ := hH.row_idx 1 rfl (fndI L nm) (by omega)
    refine gl_ops 1 [(0, Pp xb 0), (1, .int .i64 2), (2, .string (bs nm)), (3, .slice Ap p.length cp), (4, .int .i64 n), (12, Pp b3 0), (38, .slice Ar L.length cr), (39, Ni (fndI L nm))] (by kernel_rfl) ?_
    refine gl_q rfl rfl rfl (rd_idx (e := 93) (m := 3) (by kernel_rfl) (by kernel_rfl) rfl rfl hi10) ?_
    refine gl_q rfl rfl rfl (rd_loadOA (q := 3) 1 (by kernel_rfl) hH rfl rfl hb8 (by kernel_rfl) [.string (bs nm), .slice Af b.length cf, Ni sr] rfl (rowC_allO filC_len hq _ rfl)) ?_
    refine gl_st (st_storeKA (vs := [.string (bs nm), .slice Af b.length cf, Ni sr]) 3 rfl rfl rfl hH rfl rfl (by kernel_rfl) (by kernel_rfl) rfl (by simp) [.string (bs nm), .slice Af b.length cf, Ni sr] rfl ?_)
    clear hH; intro w11 hH
    refine gl_done rfl ?_
    refine sw_next ?_
    refine sw_seq ?_
    refine sw_sr ?_
    refine gl_ops 13 [(0, Pp xb 0), (1, .int .i64 2), (2, .string (bs nm)), (3, .slice Ap p.length cp), (4, .int .i64 n), (12, Pp b3 0), (54, .bool false)] (by kernel_rfl) ?_
    refine gl_dn rfl ?_
    refine sw_false rfl rfl ?_
    refine sw_skip ?_
    refine sw_next ?_
    refine sw_sr ?_
    refine gl_ops 3 [(0, Pp xb 0), (1, .int .i64 2), (2, .string (bs nm)), (3, .slice Ap p.length cp), (4, .int .i64 n), (12, Pp b3 0), (57, Pp xb 3)] (by kernel_rfl) ?_
    refine gl_q rfl rfl rfl (rd_loadK 0 (by kernel_rfl) hH rfl rfl rfl) ?_
    refine gl_ops 1 [(0, Pp xb 0), (1, .int .i64 2), (2, .string (bs nm)), (3, .slice Ap p.length cp), (4, .int .i64 n), (12, Pp b3 0), (14, .int .i64 part)] (by kernel_rfl) ?_
    refine gl_dn rfl ?_
    refine sw_sr ?_
    obtain ⟨D2, cu, pt, hcut⟩ : ∃ D2 cu pt, cutD D = (D2, cu, pt) := ⟨_, _, _, rfl⟩
    refine gl_ops 1 [(0, Pp xb 0), (1, .int .i64 2), (2, .string (bs nm)), (3, .slice Ap p.length cp), (4, .int .i64 n), (12, Pp b3 0), (14, .int .i64 part), (59, Pp xb 0)] (by kernel_rfl) ?_
    replace hH : Hp w w11 _ _ ([.blk xb 55 [.slice Ar L.length cr, .bool D.off, .int .i64 (actsI D.ar), .int .i64 part]] ++ [.row (.slice Ar L.length cr) 93 3 L.length (rowC filC L), filRs L, .blk b3 93 [.string (bs nm), .slice Af b.length cf, Ni sr]]) := hH
    refine gl_st (st_call rfl rfl rfl (by kernel_rfl) rfl (RAct_ct xb _ D D2 cu pt part _ hcut hA hH.mine) ?_)
    rintro _ w12 ⟨rfl, hF13⟩
    replace hH := hH.turns hF13; clear hF13
    replace hH : Hp w w12 _ _ [.row (.slice Ar L.length cr) 93 3 L.length (rowC filC L), filRs L, .blk b3 93 [.string (bs nm), .slice Af b.length cf, Ni sr], .blk xb 55 [.slice Ar L.length cr, .bool D2.off, .int .i64 (actsI D2.ar), .int .i64 part]] := hH
    refine gl_ops 1 [(0, Pp xb 0), (1, .int .i64 2), (2, .string (bs nm)), (3, .slice Ap p.length cp), (4, .int .i64 n), (12, Pp b3 0), (14, .int .i64 part), (15, .bool cu)] (by kernel_rfl) ?_
    refine gl_dn rfl ?_
    refine sw_seq ?_
    refine sw_sr ?_
    refine gl_ops 2 [(0, Pp xb 0), (1, .int .i64 2), (2, .string (bs nm)), (3, .slice Ap p.length cp), (4, .int .i64 n), (12, Pp b3 0), (14, .int .i64 part), (15, .bool cu), (62, .bool cu)] (by kernel_rfl) ?_
    refine gl_split 62 (b := cu) rfl (fun hg4 => ?_) (fun hg4 => ?_)
    ·
      refine gl_cv 15 (.bool true) (by rw [hg4]) rfl ?_
      subst hg4
      have hpt := cut_part hcut hP rfl
      refine gl_ops 3 [(0, Pp xb 0), (1, .int .i64 2), (2, .string (bs nm)), (3, .slice Ap p.length cp), (4, .int .i64 n), (12, Pp b3 0), (14, .int .i64 part), (15, .bool true), (65, .bool false)] (by kernel_rfl) ?_
      refine gl_dn rfl ?_
      refine sw_false rfl rfl ?_
      refine sw_skip ?_
      refine sw_next ?_
      refine sw_seq ?_
      refine sw_sr ?_
      refine gl_ops 8 [(0, Pp xb 0), (1, .int .i64 2), (2, .string (bs nm)), (3, .slice Ap p.length cp), (4, .int .i64 n), (12, Pp b3 0), (15, .bool true), (79, .bool false), (80, .int .i64 part)] (by kernel_rfl) ?_
      refine gl_st (st_call rfl rfl rfl (by kernel_rfl) rfl (RMod_ct part 2 _ (by omega) (by omega)) ?_)
      rintro _ w14 ⟨rfl, hF15⟩
      replace hH := hH.call hF15; clear hF15
      refine gl_ops 2 [(0, Pp xb 0), (1, .int .i64 2), (2, .string (bs nm)), (3, .slice Ap p.length cp), (4, .int .i64 n), (12, Pp b3 0), (15, .bool true), (83, .bool (((modI part 2 : Nat) : Int) == (1 : Int)))] (by kernel_rfl) ?_
      refine gl_dn rfl ?_
      refine sw_cond rfl rfl (fun hc6 => ?_) (fun hc6 => ?_)
      ·
        try simp only [beq_iff_eq] at hc6
        refine sw_seq ?_
        refine sw_sr ?_
        refine gl_ops 1 [(0, Pp xb 0), (1, .int .i64 2), (2, .string (bs nm)), (3, .slice Ap p.length cp), (4, .int .i64 n), (12, Pp b3 0), (15, .bool true), (84, .int .i64 2)] (by kernel_rfl) ?_
        refine gl_dn rfl ?_
        refine sw_block ?_
        refine sw_sr ?_
        refine gl_ops 2 [(0, Pp xb 0), (1, .int .i64 2), (2, .string (bs nm)), (3, .slice Ap p.length cp), (4, .int .i64 n), (12, Pp b3 0), (15, .bool true), (84, .int .i64 2), (85, .bool false)] (by kernel_rfl) ?_
        refine gl_dn rfl ?_
        refine sw_false rfl rfl ?_
        refine sw_sr ?_
        refine gl_ops 2 [(0, Pp xb 0), (1, .int .i64 2), (2, .string (bs nm)), (3, .slice Ap p.length cp), (4, .int .i64 n), (12, Pp b3 0), (15, .bool true), (84, .int .i64 2), (94, .bool false)] (by kernel_rfl) ?_
        refine gl_dn rfl ?_
        refine sw_false rfl rfl ?_
        refine sw_sr ?_
        refine gl_ops 2 [(0, Pp xb 0), (1, .int .i64 2), (2, .string (bs nm)), (3, .slice Ap p.length cp), (4, .int .i64 n), (12, Pp b3 0), (15, .bool true), (84, .int .i64 2), (100, .bool true)] (by kernel_rfl) ?_
        refine gl_dn rfl ?_
        refine sw_true rfl rfl ?_
        refine sw_sr ?_
        refine gl_st (st_buildS0 (e := 5) (m := 1) rfl rfl rfl (by kernel_rfl) (by kernel_rfl) hH ?_)
        clear hH; intro b16 w17 hH
        refine gl_ops 1 [(0, Pp xb 0), (1, .int .i64 2), (2, .string (bs nm)), (3, .slice Ap p.length cp), (12, Pp b3 0), (15, .bool true), (102, .slice (some ⟨b16, 0, none⟩) 0 0), (103, .slice Ap p.length cp)] (by kernel_rfl) ?_
        refine gl_st (st_appH (e := 5) (zv := .int .u8 0) (m := 1) (bytes := 1) 4 rfl rfl rfl (by kernel_rfl) (by kernel_rfl) rfl (by decide) hH rfl rfl rfl (hp.row.mono hH.zin) (bv_one _) (by unfold maxLen; omega) (by omega) ?_)
        clear hH; intro v18 w19 hH
        replace hH := hH.row_eq 4 (l' := p.length) (xs' := bv p) rfl (Nat.zero_add _) (List.nil_append _)
        obtain ⟨A20, c21, rfl, hl22, hm23⟩ := hH.row_form 4 rfl
        refine gl_ops 1 [(0, Pp xb 0), (1, .int .i64 2), (2, .string (bs nm)), (3, .slice Ap p.length cp), (12, Pp b3 0), (15, .bool true), (104, .slice A20 p.length c21), (105, Pp b3 1)] (by kernel_rfl) ?_
        refine gl_st (st_storeK (v := .slice A20 p.length c21) 2 rfl rfl rfl hH rfl rfl rfl (by kernel_rfl) rfl (by simp) ?_)
        clear hH; intro w24 hH
        refine gl_dn rfl ?_
        refine sw_region ?_
        refine gl_ops 1 [(0, Pp xb 0), (1, .int .i64 2), (2, .string (bs nm)), (12, Pp b3 0), (15, .bool true), (106, .slice Ap p.length cp)] (by kernel_rfl) ?_
        refine gl_q rfl rfl rfl (rd_len (e := 5) (by kernel_rfl) rfl) ?_
        refine gl_ops 1 [(0, Pp xb 0), (1, .int .i64 2), (2, .string (bs nm)), (12, Pp b3 0), (15, .bool true), (107, Ni p.length), (108, Pp b3 2)] (by kernel_rfl) ?_
        refine gl_st (st_storeK (v := Ni p.length) 2 rfl rfl rfl hH rfl rfl rfl (by kernel_rfl) rfl (by simp) ?_)
        clear hH; intro w25 hH
        refine gl_done rfl ?_
        refine bkN ?_
        refine sw_next ?_
        refine sw_sr ?_
        refine gl_ops 2 [(0, Pp xb 0), (2, .string (bs nm)), (12, Pp b3 0), (15, .bool true), (124, .bool false)] (by kernel_rfl) ?_
        refine gl_dn rfl ?_
        refine sw_false rfl rfl ?_
        refine sw_region ?_
        refine gl_ops 1 [(12, Pp b3 0), (15, .bool true), (128, Pp xb 0)] (by kernel_rfl) ?_
        refine gl_q rfl rfl rfl (rd_loadKA (m := 3) 2 (by kernel_rfl) hH rfl rfl (by kernel_rfl) [.string (bs nm), .slice A20 p.length c21, Ni p.length] rfl rfl) ?_
        replace hH := hH.pick [3, 0, 1, 2, 4] (by kernel_rfl) (os' := [.blk xb 55 [.slice Ar L.length cr, .bool D2.off, .int .i64 (actsI D2.ar), .int .i64 part], .row (.slice Ar L.length cr) 93 3 L.length (rowC filC L)] ++ [filRs L, .blk b3 93 [.string (bs nm), .slice A20 p.length c21, Ni p.length], .row (.slice A20 p.length c21) 5 1 p.length (bv p)]) (by kernel_rfl)
        refine gl_st (st_call rfl rfl rfl (by kernel_rfl) rfl (RSet_ct xb _ L (⟨nm, p, p.length⟩, Value.slice A20 p.length c21) _ _ _ _ hH.mine ⟨_, _, _, rfl⟩ hV (by omega)) ?_)
        rintro _ w26 ⟨rv2, rfl, hF27⟩
        replace hH := hH.turns hF27; clear hF27
        replace hH : Hp w w26 _ _ [filRs L, .blk b3 93 [.string (bs nm), .slice A20 p.length c21, Ni p.length], .row (.slice A20 p.length c21) 5 1 p.length (bv p), .blk xb 55 [rv2, .bool D2.off, .int .i64 (actsI D2.ar), .int .i64 part], lstO rv2 (setL L (⟨nm, p, p.length⟩, Value.slice A20 p.length c21))] := hH
        refine gl_done rfl ?_
        refine sw_next ?_
        refine sw_seq ?_
        refine sw_sr ?_
        refine gl_ops 1 [(131, .bool true)] (by kernel_rfl) ?_
        refine gl_dn rfl ?_
        refine sw_true rfl rfl ?_
        refine sw_sr ?_
        refine gl_ops 1 [(10, .int .i64 80)] (by kernel_rfl) ?_
        refine gl_dn rfl ?_
        refine sw_ret ?_
        refine thR ?_
        refine ret1 rfl rfl  ?_
        replace hH := hH.pick [2, 0, 1, 3, 4] (by kernel_rfl) (os' := [.row (.slice A20 p.length c21) 5 1 p.length (bv p), filRs L, .blk b3 93 [.string (bs nm), .slice A20 p.length c21, Ni p.length], .blk xb 55 [rv2, .bool D2.off, .int .i64 (actsI D2.ar), .int .i64 part], lstO rv2 (setL L (⟨nm, p, p.length⟩, Value.slice A20 p.length c21))]) (by kernel_rfl)
        replace hH : Hp w w26 _ _ (filR (⟨nm, p, p.length⟩, Value.slice A20 p.length c21) :: filRs L :: [.blk b3 93 [.string (bs nm), .slice A20 p.length c21, Ni p.length], .blk xb 55 [rv2, .bool D2.off, .int .i64 (actsI D2.ar), .int .i64 part], lstO rv2 (setL L (⟨nm, p, p.length⟩, Value.slice A20 p.length c21))]) := hH
        replace hH := rs_setL hH
        replace hH := hH.pick [2, 3, 0, 1] (by kernel_rfl) (os' := [.blk xb 55 [rv2, .bool D2.off, .int .i64 (actsI D2.ar), .int .i64 part], lstO rv2 (setL L (⟨nm, p, p.length⟩, Value.slice A20 p.length c21)), filRs (setL L (⟨nm, p, p.length⟩, Value.slice A20 p.length c21)), .blk b3 93 [.string (bs nm), .slice A20 p.length c21, Ni p.length]]) (by kernel_rfl)
        replace hH := (hH.sublist (.cons_cons _ (.cons_cons _ (.cons_cons _ (List.nil_sublist _)))))
        replace hH : Hp w w26 _ _ [.blk xb 55 [rv2, .bool D2.off, .int .i64 (actsI D2.ar), .int .i64 part], lstO rv2 (setL L (⟨nm, p, p.length⟩, Value.slice A20 p.length c21)), filRs (setL L (⟨nm, p, p.length⟩, Value.slice A20 p.length c21))] := hH
        exact rfin_do (kind := 2) (th := false) (L' := setL L (⟨nm, p, p.length⟩, Value.slice A20 p.length c21)) (rv' := rv2) (p) 80 (by simp) rfl hm0 (fun h => absurd h.1 (by decide)) hcut (.inr (.inr (by rw [hpt]; omega))) (by simp) (by rw [setL_fs hF hG.srt]; unfold doF; rfl) ((hH.close (r := [])).turned)
      try simp only [beq_eq_false_iff_ne, ne_eq] at hc6
      have hnrun : ¬ modI part 2 = 1 := by omega
      refine sw_skip ?_
      refine sw_next ?_
      refine sw_seq ?_
      refine sw_sr ?_
      refine gl_ops 1 [(131, .bool true)] (by kernel_rfl) ?_
      refine gl_dn rfl ?_
      refine sw_true rfl rfl ?_
      refine sw_sr ?_
      refine gl_ops 1 [(10, .int .i64 80)] (by kernel_rfl) ?_
      refine gl_dn rfl ?_
      refine sw_ret ?_
      refine thR ?_
      refine ret1 rfl rfl  ?_
      replace hH := hH.pick [3, 0, 1, 2] (by kernel_rfl) (os' := [.blk xb 55 [.slice Ar L.length cr, .bool D2.off, .int .i64 (actsI D2.ar), .int .i64 part], .row (.slice Ar L.length cr) 93 3 L.length (rowC filC L), filRs L, .blk b3 93 [.string (bs nm), .slice Af b.length cf, Ni sr]]) (by kernel_rfl)
      replace hH := (hH.sublist (.cons_cons _ (.cons_cons _ (.cons_cons _ (List.nil_sublist _)))))
      replace hH : Hp w w14 _ _ [.blk xb 55 [.slice Ar L.length cr, .bool D2.off, .int .i64 (actsI D2.ar), .int .i64 part], .row (.slice Ar L.length cr) 93 3 L.length (rowC filC L), filRs L] := hH
      exact rfin_not (kind := 2) (th := false) hF 80 (by simp) rfl hm0 (fun h => absurd h.1 (by decide)) hcut (by rw [hpt]; simp [hnrun]) ((hH.close (r := [])).turned)
    refine gl_cv 15 (.bool false) (by rw [hg4]) rfl ?_
    subst hg4
    refine gl_ops 3 [(0, Pp xb 0), (1, .int .i64 2), (2, .string (bs nm)), (3, .slice Ap p.length cp), (4, .int .i64 n), (12, Pp b3 0), (14, .int .i64 part), (15, .bool false), (65, .bool false)] (by kernel_rfl) ?_
    refine gl_dn rfl ?_
    refine sw_false rfl rfl ?_
    refine sw_skip ?_
    refine sw_next ?_
    refine sw_seq ?_
    refine sw_sr ?_
    refine gl_ops 11 [(0, Pp xb 0), (1, .int .i64 2), (2, .string (bs nm)), (3, .slice Ap p.length cp), (4, .int .i64 n), (12, Pp b3 0), (15, .bool false), (83, .bool true)] (by kernel_rfl) ?_
    refine gl_dn rfl ?_
    refine sw_true rfl rfl ?_
    refine sw_seq ?_
    refine sw_sr ?_
    refine gl_ops 1 [(0, Pp xb 0), (1, .int .i64 2), (2, .string (bs nm)), (3, .slice Ap p.length cp), (4, .int .i64 n), (12, Pp b3 0), (15, .bool false), (84, .int .i64 2)] (by kernel_rfl) ?_
    refine gl_dn rfl ?_
    refine sw_block ?_
    refine sw_sr ?_
    refine gl_ops 2 [(0, Pp xb 0), (1, .int .i64 2), (2, .string (bs nm)), (3, .slice Ap p.length cp), (4, .int .i64 n), (12, Pp b3 0), (15, .bool false), (84, .int .i64 2), (85, .bool false)] (by kernel_rfl) ?_
    refine gl_dn rfl ?_
    refine sw_false rfl rfl ?_
    refine sw_sr ?_
    refine gl_ops 2 [(0, Pp xb 0), (1, .int .i64 2), (2, .string (bs nm)), (3, .slice Ap p.length cp), (4, .int .i64 n), (12, Pp b3 0), (15, .bool false), (84, .int .i64 2), (94, .bool false)] (by kernel_rfl) ?_
    refine gl_dn rfl ?_
    refine sw_false rfl rfl ?_
    refine sw_sr ?_
    refine gl_ops 2 [(0, Pp xb 0), (1, .int .i64 2), (2, .string (bs nm)), (3, .slice Ap p.length cp), (4, .int .i64 n), (12, Pp b3 0), (15, .bool false), (84, .int .i64 2), (100, .bool true)] (by kernel_rfl) ?_
    refine gl_dn rfl ?_
    refine sw_true rfl rfl ?_
    refine sw_sr ?_
    refine gl_st (st_buildS0 (e := 5) (m := 1) rfl rfl rfl (by kernel_rfl) (by kernel_rfl) hH ?_)
    clear hH; intro b28 w29 hH
    refine gl_ops 1 [(0, Pp xb 0), (1, .int .i64 2), (2, .string (bs nm)), (3, .slice Ap p.length cp), (12, Pp b3 0), (15, .bool false), (102, .slice (some ⟨b28, 0, none⟩) 0 0), (103, .slice Ap p.length cp)] (by kernel_rfl) ?_
    refine gl_st (st_appH (e := 5) (zv := .int .u8 0) (m := 1) (bytes := 1) 4 rfl rfl rfl (by kernel_rfl) (by kernel_rfl) rfl (by decide) hH rfl rfl rfl (hp.row.mono hH.zin) (bv_one _) (by unfold maxLen; omega) (by omega) ?_)
    clear hH; intro v30 w31 hH
    replace hH := hH.row_eq 4 (l' := p.length) (xs' := bv p) rfl (Nat.zero_add _) (List.nil_append _)
    obtain ⟨A32, c33, rfl, hl34, hm35⟩ := hH.row_form 4 rfl
    refine gl_ops 1 [(0, Pp xb 0), (1, .int .i64 2), (2, .string (bs nm)), (3, .slice Ap p.length cp), (12, Pp b3 0), (15, .bool false), (104, .slice A32 p.length c33), (105, Pp b3 1)] (by kernel_rfl) ?_
    refine gl_st (st_storeK (v := .slice A32 p.length c33) 2 rfl rfl rfl hH rfl rfl rfl (by kernel_rfl) rfl (by simp) ?_)
    clear hH; intro w36 hH
    refine gl_dn rfl ?_
    refine sw_region ?_
    refine gl_ops 1 [(0, Pp xb 0), (1, .int .i64 2), (2, .string (bs nm)), (12, Pp b3 0), (15, .bool false), (106, .slice Ap p.length cp)] (by kernel_rfl) ?_
    refine gl_q rfl rfl rfl (rd_len (e := 5) (by kernel_rfl) rfl) ?_
    refine gl_ops 1 [(0, Pp xb 0), (1, .int .i64 2), (2, .string (bs nm)), (12, Pp b3 0), (15, .bool false), (107, Ni p.length), (108, Pp b3 2)] (by kernel_rfl) ?_
    refine gl_st (st_storeK (v := Ni p.length) 2 rfl rfl rfl hH rfl rfl rfl (by kernel_rfl) rfl (by simp) ?_)
    clear hH; intro w37 hH
    refine gl_done rfl ?_
    refine bkN ?_
    refine sw_next ?_
    refine sw_sr ?_
    refine gl_ops 2 [(0, Pp xb 0), (2, .string (bs nm)), (12, Pp b3 0), (15, .bool false), (124, .bool false)] (by kernel_rfl) ?_
    refine gl_dn rfl ?_
    refine sw_false rfl rfl ?_
    refine sw_region ?_
    refine gl_ops 1 [(12, Pp b3 0), (15, .bool false), (128, Pp xb 0)] (by kernel_rfl) ?_
    refine gl_q rfl rfl rfl (rd_loadKA (m := 3) 2 (by kernel_rfl) hH rfl rfl (by kernel_rfl) [.string (bs nm), .slice A32 p.length c33, Ni p.length] rfl rfl) ?_
    replace hH := hH.pick [3, 0, 1, 2, 4] (by kernel_rfl) (os' := [.blk xb 55 [.slice Ar L.length cr, .bool D2.off, .int .i64 (actsI D2.ar), .int .i64 part], .row (.slice Ar L.length cr) 93 3 L.length (rowC filC L)] ++ [filRs L, .blk b3 93 [.string (bs nm), .slice A32 p.length c33, Ni p.length], .row (.slice A32 p.length c33) 5 1 p.length (bv p)]) (by kernel_rfl)
    refine gl_st (st_call rfl rfl rfl (by kernel_rfl) rfl (RSet_ct xb _ L (⟨nm, p, p.length⟩, Value.slice A32 p.length c33) _ _ _ _ hH.mine ⟨_, _, _, rfl⟩ hV (by omega)) ?_)
    rintro _ w38 ⟨rv2, rfl, hF39⟩
    replace hH := hH.turns hF39; clear hF39
    replace hH : Hp w w38 _ _ [filRs L, .blk b3 93 [.string (bs nm), .slice A32 p.length c33, Ni p.length], .row (.slice A32 p.length c33) 5 1 p.length (bv p), .blk xb 55 [rv2, .bool D2.off, .int .i64 (actsI D2.ar), .int .i64 part], lstO rv2 (setL L (⟨nm, p, p.length⟩, Value.slice A32 p.length c33))] := hH
    refine gl_done rfl ?_
    refine sw_next ?_
    refine sw_seq ?_
    refine sw_sr ?_
    refine gl_ops 1 [(131, .bool false)] (by kernel_rfl) ?_
    refine gl_dn rfl ?_
    refine sw_false rfl rfl ?_
    refine sw_skip ?_
    refine sw_next ?_
    refine sw_sr ?_
    refine gl_ops 1 [(10, .int .i64 0)] (by kernel_rfl) ?_
    refine gl_dn rfl ?_
    refine sw_ret ?_
    refine ret1 rfl rfl  ?_
    replace hH := hH.pick [2, 0, 1, 3, 4] (by kernel_rfl) (os' := [.row (.slice A32 p.length c33) 5 1 p.length (bv p), filRs L, .blk b3 93 [.string (bs nm), .slice A32 p.length c33, Ni p.length], .blk xb 55 [rv2, .bool D2.off, .int .i64 (actsI D2.ar), .int .i64 part], lstO rv2 (setL L (⟨nm, p, p.length⟩, Value.slice A32 p.length c33))]) (by kernel_rfl)
    replace hH : Hp w w38 _ _ (filR (⟨nm, p, p.length⟩, Value.slice A32 p.length c33) :: filRs L :: [.blk b3 93 [.string (bs nm), .slice A32 p.length c33, Ni p.length], .blk xb 55 [rv2, .bool D2.off, .int .i64 (actsI D2.ar), .int .i64 part], lstO rv2 (setL L (⟨nm, p, p.length⟩, Value.slice A32 p.length c33))]) := hH
    replace hH := rs_setL hH
    replace hH := hH.pick [2, 3, 0, 1] (by kernel_rfl) (os' := [.blk xb 55 [rv2, .bool D2.off, .int .i64 (actsI D2.ar), .int .i64 part], lstO rv2 (setL L (⟨nm, p, p.length⟩, Value.slice A32 p.length c33)), filRs (setL L (⟨nm, p, p.length⟩, Value.slice A32 p.length c33)), .blk b3 93 [.string (bs nm), .slice A32 p.length c33, Ni p.length]]) (by kernel_rfl)
    replace hH := (hH.sublist (.cons_cons _ (.cons_cons _ (.cons_cons _ (List.nil_sublist _)))))
    replace hH : Hp w w38 _ _ [.blk xb 55 [rv2, .bool D2.off, .int .i64 (actsI D2.ar), .int .i64 part], lstO rv2 (setL L (⟨nm, p, p.length⟩, Value.slice A32 p.length c33)), filRs (setL L (⟨nm, p, p.length⟩, Value.slice A32 p.length c33))] := hH
    exact rfin_do (kind := 2) (th := false) (L' := setL L (⟨nm, p, p.length⟩, Value.slice A32 p.length c33)) (rv' := rv2) (p) 0 (by simp) rfl hm0 (fun h => absurd h.1 (by decide)) hcut (.inl rfl) (by simp) (by rw [setL_fs hF hG.srt]; unfold doF; rfl) ((hH.close (r := [])).turned)
  try simp only [decide_eq_false_iff_not, Int.not_lt, Int.not_le] at hc2
  have hlt : ¬ fndI L nm < L.length := by intro h9; unfold fndZ at hc2; rw [if_pos h9] at hc2; omega
  have hold := rdk_no hF hlt
  refine sw_skip ?_
  refine sw_next ?_
  refine sw_seq ?_
  refine sw_sr ?_
  refine gl_ops 13 [(0, Pp xb 0), (1, .int .i64 2), (2, .string (bs nm)), (3, .slice Ap p.length cp), (4, .int .i64 n), (12, Pp b3 0), (54, .bool false)] (by kernel_rfl) ?_
  refine gl_dn rfl ?_
  refine sw_false rfl rfl ?_
  refine sw_skip ?_
  refine sw_next ?_
  refine sw_sr ?_
  refine gl_ops 3 [(0, Pp xb 0), (1, .int .i64 2), (2, .string (bs nm)), (3, .slice Ap p.length cp), (4, .int .i64 n), (12, Pp b3 0), (57, Pp xb 3)] (by kernel_rfl) ?_
  refine gl_q rfl rfl rfl (rd_loadK 0 (by kernel_rfl) hH rfl rfl rfl) ?_
  refine gl_ops 1 [(0, Pp xb 0), (1, .int .i64 2), (2, .string (bs nm)), (3, .slice Ap p.length cp), (4, .int .i64 n), (12, Pp b3 0), (14, .int .i64 part)] (by kernel_rfl) ?_
  refine gl_dn rfl ?_
  refine sw_sr ?_
  obtain ⟨D2, cu, pt, hcut⟩ : ∃ D2 cu pt, cutD D = (D2, cu, pt) := ⟨_, _, _, rfl⟩
  refine gl_ops 1 [(0, Pp xb 0), (1, .int .i64 2), (2, .string (bs nm)), (3, .slice Ap p.length cp), (4, .int .i64 n), (12, Pp b3 0), (14, .int .i64 part), (59, Pp xb 0)] (by kernel_rfl) ?_
  replace hH : Hp w w6 _ _ ([.blk xb 55 [.slice Ar L.length cr, .bool D.off, .int .i64 (actsI D.ar), .int .i64 part]] ++ [.row (.slice Ar L.length cr) 93 3 L.length (rowC filC L), filRs L, .blk b3 93 [.string (bs nm), .slice none 0 0, .int .i64 0]]) := hH
  refine gl_st (st_call rfl rfl rfl (by kernel_rfl) rfl (RAct_ct xb _ D D2 cu pt part _ hcut hA hH.mine) ?_)
  rintro _ w40 ⟨rfl, hF41⟩
  replace hH := hH.turns hF41; clear hF41
  replace hH : Hp w w40 _ _ [.row (.slice Ar L.length cr) 93 3 L.length (rowC filC L), filRs L, .blk b3 93 [.string (bs nm), .slice none 0 0, .int .i64 0], .blk xb 55 [.slice Ar L.length cr, .bool D2.off, .int .i64 (actsI D2.ar), .int .i64 part]] := hH
  refine gl_ops 1 [(0, Pp xb 0), (1, .int .i64 2), (2, .string (bs nm)), (3, .slice Ap p.length cp), (4, .int .i64 n), (12, Pp b3 0), (14, .int .i64 part), (15, .bool cu)] (by kernel_rfl) ?_
  refine gl_dn rfl ?_
  refine sw_seq ?_
  refine sw_sr ?_
  refine gl_ops 2 [(0, Pp xb 0), (1, .int .i64 2), (2, .string (bs nm)), (3, .slice Ap p.length cp), (4, .int .i64 n), (12, Pp b3 0), (14, .int .i64 part), (15, .bool cu), (62, .bool cu)] (by kernel_rfl) ?_
  refine gl_split 62 (b := cu) rfl (fun hg21 => ?_) (fun hg21 => ?_)
  ·
    refine gl_cv 15 (.bool true) (by rw [hg21]) rfl ?_
    subst hg21
    have hpt := cut_part hcut hP rfl
    refine gl_ops 3 [(0, Pp xb 0), (1, .int .i64 2), (2, .string (bs nm)), (3, .slice Ap p.length cp), (4, .int .i64 n), (12, Pp b3 0), (14, .int .i64 part), (15, .bool true), (65, .bool false)] (by kernel_rfl) ?_
    refine gl_dn rfl ?_
    refine sw_false rfl rfl ?_
    refine sw_skip ?_
    refine sw_next ?_
    refine sw_seq ?_
    refine sw_sr ?_
    refine gl_ops 8 [(0, Pp xb 0), (1, .int .i64 2), (2, .string (bs nm)), (3, .slice Ap p.length cp), (4, .int .i64 n), (12, Pp b3 0), (15, .bool true), (79, .bool false), (80, .int .i64 part)] (by kernel_rfl) ?_
    refine gl_st (st_call rfl rfl rfl (by kernel_rfl) rfl (RMod_ct part 2 _ (by omega) (by omega)) ?_)
    rintro _ w42 ⟨rfl, hF43⟩
    replace hH := hH.call hF43; clear hF43
    refine gl_ops 2 [(0, Pp xb 0), (1, .int .i64 2), (2, .string (bs nm)), (3, .slice Ap p.length cp), (4, .int .i64 n), (12, Pp b3 0), (15, .bool true), (83, .bool (((modI part 2 : Nat) : Int) == (1 : Int)))] (by kernel_rfl) ?_
    refine gl_dn rfl ?_
    refine sw_cond rfl rfl (fun hc23 => ?_) (fun hc23 => ?_)
    ·
      try simp only [beq_iff_eq] at hc23
      refine sw_seq ?_
      refine sw_sr ?_
      refine gl_ops 1 [(0, Pp xb 0), (1, .int .i64 2), (2, .string (bs nm)), (3, .slice Ap p.length cp), (4, .int .i64 n), (12, Pp b3 0), (15, .bool true), (84, .int .i64 2)] (by kernel_rfl) ?_
      refine gl_dn rfl ?_
      refine sw_block ?_
      refine sw_sr ?_
      refine gl_ops 2 [(0, Pp xb 0), (1, .int .i64 2), (2, .string (bs nm)), (3, .slice Ap p.length cp), (4, .int .i64 n), (12, Pp b3 0), (15, .bool true), (84, .int .i64 2), (85, .bool false)] (by kernel_rfl) ?_
      refine gl_dn rfl ?_
      refine sw_false rfl rfl ?_
      refine sw_sr ?_
      refine gl_ops 2 [(0, Pp xb 0), (1, .int .i64 2), (2, .string (bs nm)), (3, .slice Ap p.length cp), (4, .int .i64 n), (12, Pp b3 0), (15, .bool true), (84, .int .i64 2), (94, .bool false)] (by kernel_rfl) ?_
      refine gl_dn rfl ?_
      refine sw_false rfl rfl ?_
      refine sw_sr ?_
      refine gl_ops 2 [(0, Pp xb 0), (1, .int .i64 2), (2, .string (bs nm)), (3, .slice Ap p.length cp), (4, .int .i64 n), (12, Pp b3 0), (15, .bool true), (84, .int .i64 2), (100, .bool true)] (by kernel_rfl) ?_
      refine gl_dn rfl ?_
      refine sw_true rfl rfl ?_
      refine sw_sr ?_
      refine gl_st (st_buildS0 (e := 5) (m := 1) rfl rfl rfl (by kernel_rfl) (by kernel_rfl) hH ?_)
      clear hH; intro b44 w45 hH
      refine gl_ops 1 [(0, Pp xb 0), (1, .int .i64 2), (2, .string (bs nm)), (3, .slice Ap p.length cp), (12, Pp b3 0), (15, .bool true), (102, .slice (some ⟨b44, 0, none⟩) 0 0), (103, .slice Ap p.length cp)] (by kernel_rfl) ?_
      refine gl_st (st_appH (e := 5) (zv := .int .u8 0) (m := 1) (bytes := 1) 4 rfl rfl rfl (by kernel_rfl) (by kernel_rfl) rfl (by decide) hH rfl rfl rfl (hp.row.mono hH.zin) (bv_one _) (by unfold maxLen; omega) (by omega) ?_)
      clear hH; intro v46 w47 hH
      replace hH := hH.row_eq 4 (l' := p.length) (xs' := bv p) rfl (Nat.zero_add _) (List.nil_append _)
      obtain ⟨A48, c49, rfl, hl50, hm51⟩ := hH.row_form 4 rfl
      refine gl_ops 1 [(0, Pp xb 0), (1, .int .i64 2), (2, .string (bs nm)), (3, .slice Ap p.length cp), (12, Pp b3 0), (15, .bool true), (104, .slice A48 p.length c49), (105, Pp b3 1)] (by kernel_rfl) ?_
      refine gl_st (st_storeK (v := .slice A48 p.length c49) 2 rfl rfl rfl hH rfl rfl rfl (by kernel_rfl) rfl (by simp) ?_)
      clear hH; intro w52 hH
      refine gl_dn rfl ?_
      refine sw_region ?_
      refine gl_ops 1 [(0, Pp xb 0), (1, .int .i64 2), (2, .string (bs nm)), (12, Pp b3 0), (15, .bool true), (106, .slice Ap p.length cp)] (by kernel_rfl) ?_
      refine gl_q rfl rfl rfl (rd_len (e := 5) (by kernel_rfl) rfl) ?_
      refine gl_ops 1 [(0, Pp xb 0), (1, .int .i64 2), (2, .string (bs nm)), (12, Pp b3 0), (15, .bool true), (107, Ni p.length), (108, Pp b3 2)] (by kernel_rfl) ?_
      refine gl_st (st_storeK (v := Ni p.length) 2 rfl rfl rfl hH rfl rfl rfl (by kernel_rfl) rfl (by simp) ?_)
      clear hH; intro w53 hH
      refine gl_done rfl ?_
      refine bkN ?_
      refine sw_next ?_
      refine sw_sr ?_
      refine gl_ops 2 [(0, Pp xb 0), (2, .string (bs nm)), (12, Pp b3 0), (15, .bool true), (124, .bool false)] (by kernel_rfl) ?_
      refine gl_dn rfl ?_
      refine sw_false rfl rfl ?_
      refine sw_region ?_
      refine gl_ops 1 [(12, Pp b3 0), (15, .bool true), (128, Pp xb 0)] (by kernel_rfl) ?_
      refine gl_q rfl rfl rfl (rd_loadKA (m := 3) 2 (by kernel_rfl) hH rfl rfl (by kernel_rfl) [.string (bs nm), .slice A48 p.length c49, Ni p.length] rfl rfl) ?_
      replace hH := hH.pick [3, 0, 1, 2, 4] (by kernel_rfl) (os' := [.blk xb 55 [.slice Ar L.length cr, .bool D2.off, .int .i64 (actsI D2.ar), .int .i64 part], .row (.slice Ar L.length cr) 93 3 L.length (rowC filC L)] ++ [filRs L, .blk b3 93 [.string (bs nm), .slice A48 p.length c49, Ni p.length], .row (.slice A48 p.length c49) 5 1 p.length (bv p)]) (by kernel_rfl)
      refine gl_st (st_call rfl rfl rfl (by kernel_rfl) rfl (RSet_ct xb _ L (⟨nm, p, p.length⟩, Value.slice A48 p.length c49) _ _ _ _ hH.mine ⟨_, _, _, rfl⟩ hV (by omega)) ?_)
      rintro _ w54 ⟨rv2, rfl, hF55⟩
      replace hH := hH.turns hF55; clear hF55
      replace hH : Hp w w54 _ _ [filRs L, .blk b3 93 [.string (bs nm), .slice A48 p.length c49, Ni p.length], .row (.slice A48 p.length c49) 5 1 p.length (bv p), .blk xb 55 [rv2, .bool D2.off, .int .i64 (actsI D2.ar), .int .i64 part], lstO rv2 (setL L (⟨nm, p, p.length⟩, Value.slice A48 p.length c49))] := hH
      refine gl_done rfl ?_
      refine sw_next ?_
      refine sw_seq ?_
      refine sw_sr ?_
      refine gl_ops 1 [(131, .bool true)] (by kernel_rfl) ?_
      refine gl_dn rfl ?_
      refine sw_true rfl rfl ?_
      refine sw_sr ?_
      refine gl_ops 1 [(10, .int .i64 80)] (by kernel_rfl) ?_
      refine gl_dn rfl ?_
      refine sw_ret ?_
      refine thR ?_
      refine ret1 rfl rfl  ?_
      replace hH := hH.pick [2, 0, 1, 3, 4] (by kernel_rfl) (os' := [.row (.slice A48 p.length c49) 5 1 p.length (bv p), filRs L, .blk b3 93 [.string (bs nm), .slice A48 p.length c49, Ni p.length], .blk xb 55 [rv2, .bool D2.off, .int .i64 (actsI D2.ar), .int .i64 part], lstO rv2 (setL L (⟨nm, p, p.length⟩, Value.slice A48 p.length c49))]) (by kernel_rfl)
      replace hH : Hp w w54 _ _ (filR (⟨nm, p, p.length⟩, Value.slice A48 p.length c49) :: filRs L :: [.blk b3 93 [.string (bs nm), .slice A48 p.length c49, Ni p.length], .blk xb 55 [rv2, .bool D2.off, .int .i64 (actsI D2.ar), .int .i64 part], lstO rv2 (setL L (⟨nm, p, p.length⟩, Value.slice A48 p.length c49))]) := hH
      replace hH := rs_setL hH
      replace hH := hH.pick [2, 3, 0, 1] (by kernel_rfl) (os' := [.blk xb 55 [rv2, .bool D2.off, .int .i64 (actsI D2.ar), .int .i64 part], lstO rv2 (setL L (⟨nm, p, p.length⟩, Value.slice A48 p.length c49)), filRs (setL L (⟨nm, p, p.length⟩, Value.slice A48 p.length c49)), .blk b3 93 [.string (bs nm), .slice A48 p.length c49, Ni p.length]]) (by kernel_rfl)
      replace hH := (hH.sublist (.cons_cons _ (.cons_cons _ (.cons_cons _ (List.nil_sublist _)))))
      replace hH : Hp w w54 _ _ [.blk xb 55 [rv2, .bool D2.off, .int .i64 (actsI D2.ar), .int .i64 part], lstO rv2 (setL L (⟨nm, p, p.length⟩, Value.slice A48 p.length c49)), filRs (setL L (⟨nm, p, p.length⟩, Value.slice A48 p.length c49))] := hH
      exact rfin_do (kind := 2) (th := false) (L' := setL L (⟨nm, p, p.length⟩, Value.slice A48 p.length c49)) (rv' := rv2) (p) 80 (by simp) rfl hm0 (fun h => absurd h.1 (by decide)) hcut (.inr (.inr (by rw [hpt]; omega))) (by simp) (by rw [setL_fs hF hG.srt]; unfold doF; rfl) ((hH.close (r := [])).turned)
    try simp only [beq_eq_false_iff_ne, ne_eq] at hc23
    have hnrun : ¬ modI part 2 = 1 := by omega
    refine sw_skip ?_
    refine sw_next ?_
    refine sw_seq ?_
    refine sw_sr ?_
    refine gl_ops 1 [(131, .bool true)] (by kernel_rfl) ?_
    refine gl_dn rfl ?_
    refine sw_true rfl rfl ?_
    refine sw_sr ?_
    refine gl_ops 1 [(10, .int .i64 80)] (by kernel_rfl) ?_
    refine gl_dn rfl ?_
    refine sw_ret ?_
    refine thR ?_
    refine ret1 rfl rfl  ?_
    replace hH := hH.pick [3, 0, 1, 2] (by kernel_rfl) (os' := [.blk xb 55 [.slice Ar L.length cr, .bool D2.off, .int .i64 (actsI D2.ar), .int .i64 part], .row (.slice Ar L.length cr) 93 3 L.length (rowC filC L), filRs L, .blk b3 93 [.string (bs nm), .slice none 0 0, .int .i64 0]]) (by kernel_rfl)
    replace hH := (hH.sublist (.cons_cons _ (.cons_cons _ (.cons_cons _ (List.nil_sublist _)))))
    replace hH : Hp w w42 _ _ [.blk xb 55 [.slice Ar L.length cr, .bool D2.off, .int .i64 (actsI D2.ar), .int .i64 part], .row (.slice Ar L.length cr) 93 3 L.length (rowC filC L), filRs L] := hH
    exact rfin_not (kind := 2) (th := false) hF 80 (by simp) rfl hm0 (fun h => absurd h.1 (by decide)) hcut (by rw [hpt]; simp [hnrun]) ((hH.close (r := [])).turned)
  refine gl_cv 15 (.bool false) (by rw [hg21]) rfl ?_
  subst hg21
  refine gl_ops 3 [(0, Pp xb 0), (1, .int .i64 2), (2, .string (bs nm)), (3, .slice Ap p.length cp), (4, .int .i64 n), (12, Pp b3 0), (14, .int .i64 part), (15, .bool false), (65, .bool false)] (by kernel_rfl) ?_
  refine gl_dn rfl ?_
  refine sw_false rfl rfl ?_
  refine sw_skip ?_
  refine sw_next ?_
  refine sw_seq ?_
  refine sw_sr ?_
  refine gl_ops 11 [(0, Pp xb 0), (1, .int .i64 2), (2, .string (bs nm)), (3, .slice Ap p.length cp), (4, .int .i64 n), (12, Pp b3 0), (15, .bool false), (83, .bool true)] (by kernel_rfl) ?_
  refine gl_dn rfl ?_
  refine sw_true rfl rfl ?_
  refine sw_seq ?_
  refine sw_sr ?_
  refine gl_ops 1 [(0, Pp xb 0), (1, .int .i64 2), (2, .string (bs nm)), (3, .slice Ap p.length cp), (4, .int .i64 n), (12, Pp b3 0), (15, .bool false), (84, .int .i64 2)] (by kernel_rfl) ?_
  refine gl_dn rfl ?_
  refine sw_block ?_
  refine sw_sr ?_
  refine gl_ops 2 [(0, Pp xb 0), (1, .int .i64 2), (2, .string (bs nm)), (3, .slice Ap p.length cp), (4, .int .i64 n), (12, Pp b3 0), (15, .bool false), (84, .int .i64 2), (85, .bool false)] (by kernel_rfl) ?_
  refine gl_dn rfl ?_
  refine sw_false rfl rfl ?_
  refine sw_sr ?_
  refine gl_ops 2 [(0, Pp xb 0), (1, .int .i64 2), (2, .string (bs nm)), (3, .slice Ap p.length cp), (4, .int .i64 n), (12, Pp b3 0), (15, .bool false), (84, .int .i64 2), (94, .bool false)] (by kernel_rfl) ?_
  refine gl_dn rfl ?_
  refine sw_false rfl rfl ?_
  refine sw_sr ?_
  refine gl_ops 2 [(0, Pp xb 0), (1, .int .i64 2), (2, .string (bs nm)), (3, .slice Ap p.length cp), (4, .int .i64 n), (12, Pp b3 0), (15, .bool false), (84, .int .i64 2), (100, .bool true)] (by kernel_rfl) ?_
  refine gl_dn rfl ?_
  refine sw_true rfl rfl ?_
  refine sw_sr ?_
  refine gl_st (st_buildS0 (e := 5) (m := 1) rfl rfl rfl (by kernel_rfl) (by kernel_rfl) hH ?_)
  clear hH; intro b56 w57 hH
  refine gl_ops 1 [(0, Pp xb 0), (1, .int .i64 2), (2, .string (bs nm)), (3, .slice Ap p.length cp), (12, Pp b3 0), (15, .bool false), (102, .slice (some ⟨b56, 0, none⟩) 0 0), (103, .slice Ap p.length cp)] (by kernel_rfl) ?_
  refine gl_st (st_appH (e := 5) (zv := .int .u8 0) (m := 1) (bytes := 1) 4 rfl rfl rfl (by kernel_rfl) (by kernel_rfl) rfl (by decide) hH rfl rfl rfl (hp.row.mono hH.zin) (bv_one _) (by unfold maxLen; omega) (by omega) ?_)
  clear hH; intro v58 w59 hH
  replace hH := hH.row_eq 4 (l' := p.length) (xs' := bv p) rfl (Nat.zero_add _) (List.nil_append _)
  obtain ⟨A60, c61, rfl, hl62, hm63⟩ := hH.row_form 4 rfl
  refine gl_ops 1 [(0, Pp xb 0), (1, .int .i64 2), (2, .string (bs nm)), (3, .slice Ap p.length cp), (12, Pp b3 0), (15, .bool false), (104, .slice A60 p.length c61), (105, Pp b3 1)] (by kernel_rfl) ?_
  refine gl_st (st_storeK (v := .slice A60 p.length c61) 2 rfl rfl rfl hH rfl rfl rfl (by kernel_rfl) rfl (by simp) ?_)
  clear hH; intro w64 hH
  refine gl_dn rfl ?_
  refine sw_region ?_
  refine gl_ops 1 [(0, Pp xb 0), (1, .int .i64 2), (2, .string (bs nm)), (12, Pp b3 0), (15, .bool false), (106, .slice Ap p.length cp)] (by kernel_rfl) ?_
  refine gl_q rfl rfl rfl (rd_len (e := 5) (by kernel_rfl) rfl) ?_
  refine gl_ops 1 [(0, Pp xb 0), (1, .int .i64 2), (2, .string (bs nm)), (12, Pp b3 0), (15, .bool false), (107, Ni p.length), (108, Pp b3 2)] (by kernel_rfl) ?_
  refine gl_st (st_storeK (v := Ni p.length) 2 rfl rfl rfl hH rfl rfl rfl (by kernel_rfl) rfl (by simp) ?_)
  clear hH; intro w65 hH
  refine gl_done rfl ?_
  refine bkN ?_
  refine sw_next ?_
  refine sw_sr ?_
  refine gl_ops 2 [(0, Pp xb 0), (2, .string (bs nm)), (12, Pp b3 0), (15, .bool false), (124, .bool false)] (by kernel_rfl) ?_
  refine gl_dn rfl ?_
  refine sw_false rfl rfl ?_
  refine sw_region ?_
  refine gl_ops 1 [(12, Pp b3 0), (15, .bool false), (128, Pp xb 0)] (by kernel_rfl) ?_
  refine gl_q rfl rfl rfl (rd_loadKA (m := 3) 2 (by kernel_rfl) hH rfl rfl (by kernel_rfl) [.string (bs nm), .slice A60 p.length c61, Ni p.length] rfl rfl) ?_
  replace hH := hH.pick [3, 0, 1, 2, 4] (by kernel_rfl) (os' := [.blk xb 55 [.slice Ar L.length cr, .bool D2.off, .int .i64 (actsI D2.ar), .int .i64 part], .row (.slice Ar L.length cr) 93 3 L.length (rowC filC L)] ++ [filRs L, .blk b3 93 [.string (bs nm), .slice A60 p.length c61, Ni p.length], .row (.slice A60 p.length c61) 5 1 p.length (bv p)]) (by kernel_rfl)
  refine gl_st (st_call rfl rfl rfl (by kernel_rfl) rfl (RSet_ct xb _ L (⟨nm, p, p.length⟩, Value.slice A60 p.length c61) _ _ _ _ hH.mine ⟨_, _, _, rfl⟩ hV (by omega)) ?_)
  rintro _ w66 ⟨rv2, rfl, hF67⟩
  replace hH := hH.turns hF67; clear hF67
  replace hH : Hp w w66 _ _ [filRs L, .blk b3 93 [.string (bs nm), .slice A60 p.length c61, Ni p.length], .row (.slice A60 p.length c61) 5 1 p.length (bv p), .blk xb 55 [rv2, .bool D2.off, .int .i64 (actsI D2.ar), .int .i64 part], lstO rv2 (setL L (⟨nm, p, p.length⟩, Value.slice A60 p.length c61))] := hH
  refine gl_done rfl ?_
  refine sw_next ?_
  refine sw_seq ?_
  refine sw_sr ?_
  refine gl_ops 1 [(131, .bool false)] (by kernel_rfl) ?_
  refine gl_dn rfl ?_
  refine sw_false rfl rfl ?_
  refine sw_skip ?_
  refine sw_next ?_
  refine sw_sr ?_
  refine gl_ops 1 [(10, .int .i64 0)] (by kernel_rfl) ?_
  refine gl_dn rfl ?_
  refine sw_ret ?_
  refine ret1 rfl rfl  ?_
  replace hH := hH.pick [2, 0, 1, 3, 4] (by kernel_rfl) (os' := [.row (.slice A60 p.length c61) 5 1 p.length (bv p), filRs L, .blk b3 93 [.string (bs nm), .slice A60 p.length c61, Ni p.length], .blk xb 55 [rv2, .bool D2.off, .int .i64 (actsI D2.ar), .int .i64 part], lstO rv2 (setL L (⟨nm, p, p.length⟩, Value.slice A60 p.length c61))]) (by kernel_rfl)
  replace hH : Hp w w66 _ _ (filR (⟨nm, p, p.length⟩, Value.slice A60 p.length c61) :: filRs L :: [.blk b3 93 [.string (bs nm), .slice A60 p.length c61, Ni p.length], .blk xb 55 [rv2, .bool D2.off, .int .i64 (actsI D2.ar), .int .i64 part], lstO rv2 (setL L (⟨nm, p, p.length⟩, Value.slice A60 p.length c61))]) := hH
  replace hH := rs_setL hH
  replace hH := hH.pick [2, 3, 0, 1] (by kernel_rfl) (os' := [.blk xb 55 [rv2, .bool D2.off, .int .i64 (actsI D2.ar), .int .i64 part], lstO rv2 (setL L (⟨nm, p, p.length⟩, Value.slice A60 p.length c61)), filRs (setL L (⟨nm, p, p.length⟩, Value.slice A60 p.length c61)), .blk b3 93 [.string (bs nm), .slice A60 p.length c61, Ni p.length]]) (by kernel_rfl)
  replace hH := (hH.sublist (.cons_cons _ (.cons_cons _ (.cons_cons _ (List.nil_sublist _)))))
  replace hH : Hp w w66 _ _ [.blk xb 55 [rv2, .bool D2.off, .int .i64 (actsI D2.ar), .int .i64 part], lstO rv2 (setL L (⟨nm, p, p.length⟩, Value.slice A60 p.length c61)), filRs (setL L (⟨nm, p, p.length⟩, Value.slice A60 p.length c61))] := hH
  exact rfin_do (kind := 2) (th := false) (L' := setL L (⟨nm, p, p.length⟩, Value.slice A60 p.length c61)) (rv' := rv2) (p) 0 (by simp) rfl hm0 (fun h => absurd h.1 (by decide)) hcut (.inl rfl) (by simp) (by rw [setL_fs hF hG.srt]; unfold doF; rfl) ((hH.close (r := [])).turned)
theorem RDo4_ct (xb : Nat) (rv : Value) (D : Dsk) (part : Int) (L : FV) (nm : List UInt8) (vp : Value) (p : List UInt8) (n : Int) (M : Nat) (w : World) (hM : Mine w (ownR xb rv D part L)) (hF : L.map (·.1) = D.fs) (hA : ArOk D.ar) (hP : PartOk D.ar part) (hG : Good D.fs M) (hMM : M ≤ 140737488355328) (hN : L.length ≤ 900000) (hs : nm.length ≤ 140737488355328) (hp : RB (off w (blksOf (ownR xb rv D part L))) vp p) (hpl : p.length ≤ 140737488355328) :
    Fun Tryz.prog 18 [.pointer (some ⟨xb, 0, none⟩), .int .i64 4, .string (bs nm), vp, .int .i64 n] w fun v w' => RPost xb rv D part L (doD D 4 nm p n) w v w' := by
  obtain ⟨Ar, cr, rfl, hcr1, hcr2⟩ := (Row.of_own (hM.1 _ (List.mem_singleton.2 rfl) (lstO rv L) (by simp [rdkO]))).form
  have hcr3 := hcr2
  simp only [maxLen] at hcr3
  have hV : SlQ L := filRs_sl (hM.1 _ (List.mem_singleton.2 rfl) (filRs L) (by simp [rdkO]))
  obtain ⟨Ap, cp, rfl, hp1, hp2⟩ := hp.row.form
  refine fun_of_sw Tryz.func18 rfl 132 rfl rfl ?_
  have hH : Hp w w (off w (blksOf (ownR xb (.slice Ar L.length cr) D part L))) (blksOf (ownR xb (.slice Ar L.length cr) D part L)) (rdkO xb (.slice Ar L.length cr) D.off (actsI D.ar) part L ++ []) := (Hp.start_mine hM).open_
  replace hH : Hp w w _ _ [.blk xb 55 [.slice Ar L.length cr, .bool D.off, .int .i64 (actsI D.ar), .int .i64 part], .row (.slice Ar L.length cr) 93 3 L.length (rowC filC L), filRs L] := hH
  refine sw_sr ?_
  refine gl_ops 1 [(0, Pp xb 0), (1, .int .i64 4), (2, .string (bs nm)), (3, .slice Ap p.length cp), (4, .int .i64 n)] (by kernel_rfl) ?_
  refine gl_dn rfl ?_
  refine sw_sr ?_
  refine gl_ops 8 [(0, Pp xb 0), (1, .int .i64 4), (2, .string (bs nm)), (3, .slice Ap p.length cp), (4, .int .i64 n), (16, Pp xb 0), (17, .string (bs nm)), (23, .bool true)] (by kernel_rfl) ?_
  refine gl_st (st_call rfl rfl rfl (by kernel_rfl) rfl (RMay18_ct xb _ L D nm true _ (hH.blk_cell 0 rfl rfl) (hH.blk_cell 0 rfl rfl) (hH.row_reads 1 rfl) hF hs) ?_)
  rintro _ w1 ⟨rfl, hF2⟩
  replace hH := hH.call hF2; clear hF2
  refine gl_ops 1 [(0, Pp xb 0), (1, .int .i64 4), (2, .string (bs nm)), (3, .slice Ap p.length cp), (4, .int .i64 n), (11, Ni (mayE D nm true))] (by kernel_rfl) ?_
  refine gl_dn rfl ?_
  refine sw_seq ?_
  refine sw_sr ?_
  refine gl_ops 2 [(0, Pp xb 0), (1, .int .i64 4), (2, .string (bs nm)), (3, .slice Ap p.length cp), (4, .int .i64 n), (11, Ni (mayE D nm true)), (26, .bool (((mayE D nm true : Nat) : Int) != (0 : Int)))] (by kernel_rfl) ?_
  refine gl_dn rfl ?_
  refine sw_cond rfl rfl (fun hc1 => ?_) (fun hc1 => ?_)
  ·
    try simp only [bne_iff_ne, ne_eq] at hc1
    refine sw_sr ?_
    refine gl_ops 2 [(10, Ni (mayE D nm true))] (by kernel_rfl) ?_
    refine gl_dn rfl ?_
    refine sw_ret ?_
    refine thR ?_
    refine ret1 rfl rfl  ?_
    replace hH := (hH.sublist (.cons_cons _ (.cons_cons _ (.cons_cons _ (List.nil_sublist _)))))
    replace hH : Hp w w1 _ _ [.blk xb 55 [.slice Ar L.length cr, .bool D.off, .int .i64 (actsI D.ar), .int .i64 part], .row (.slice Ar L.length cr) 93 3 L.length (rowC filC L), filRs L] := hH
    exact rfin_err (kind := 4) (th := true) hF rfl (by omega) ((hH.close (r := [])).turned)
  try simp only [bne_eq_false_iff_eq] at hc1
  have hm0 : mayE D nm true = 0 := by omega
  have hlt := rdk_lt hF hm0
  obtain ⟨b, sr, fv, hq, hold, hmem⟩ := rdk_find hF hlt
  obtain ⟨Af, cf, rfl, hf1, hf2⟩ := (filRs_rb3 hH 2 rfl hq).row.form
  have hbM := hG.short _ hmem
  have hsr := hG.sure _ hmem
  simp only at hbM hsr
  refine sw_skip ?_
  refine sw_next ?_
  refine sw_sr ?_
  refine gl_ops 2 [(0, Pp xb 0), (1, .int .i64 4), (2, .string (bs nm)), (3, .slice Ap p.length cp), (4, .int .i64 n), (29, .agg #[.string (bs nm), .slice none 0 0, .int .i64 0])] (by kernel_rfl) ?_
  refine gl_st (st_allocH rfl rfl rfl (cs := [.string (bs []), .slice none 0 0, .int .i64 0]) (by kernel_rfl) hH ?_)
  clear hH; intro b3 w4 hH
  refine gl_st (st_storeKA (vs := [.string (bs nm), .slice none 0 0, .int .i64 0]) 3 rfl rfl rfl hH rfl rfl (by kernel_rfl) (by kernel_rfl) rfl (by simp) [.string (bs nm), .slice none 0 0, .int .i64 0] rfl ?_)
  clear hH; intro w5 hH
  refine gl_dn rfl ?_
  refine sw_sr ?_
  refine gl_ops 2 [(0, Pp xb 0), (1, .int .i64 4), (2, .string (bs nm)), (3, .slice Ap p.length cp), (4, .int .i64 n), (12, Pp b3 0), (30, Pp xb 0), (31, .string (bs nm))] (by kernel_rfl) ?_
  refine gl_st (st_call rfl rfl rfl (by kernel_rfl) rfl (RFind_ct xb _ L nm _ (hH.blk_cell 0 rfl rfl) (hH.row_reads 1 rfl)) ?_)
  rintro _ w6 ⟨rfl, hF7⟩
  replace hH := hH.call hF7; clear hF7
  refine gl_cv 32 (Ni (fndI L nm)) (by unfold fndZ; rw [if_pos hlt]) rfl ?_
  refine gl_ops 1 [(0, Pp xb 0), (1, .int .i64 4), (2, .string (bs nm)), (3, .slice Ap p.length cp), (4, .int .i64 n), (12, Pp b3 0), (13, Ni (fndI L nm))] (by kernel_rfl) ?_
  refine gl_dn rfl ?_
  refine sw_seq ?_
  refine sw_sr ?_
  refine gl_ops 2 [(0, Pp xb 0), (1, .int .i64 4), (2, .string (bs nm)), (3, .slice Ap p.length cp), (4, .int .i64 n), (12, Pp b3 0), (13, Ni (fndI L nm)), (34, .bool (decide (((fndI L nm : Nat) : Int) ≥ (0 : Int))))] (by kernel_rfl) ?_
  refine gl_dn rfl ?_
  refine sw_cond rfl rfl (fun hc2 => ?_) (fun hc2 => ?_)
  rotate_left
  · exact absurd hc2 (by simp only [decide_eq_false_iff_not, beq_eq_false_iff_ne, bne_eq_false_iff_eq, ne_eq, Decidable.not_not, Int.not_lt, Int.not_le]; omega)
  clear hc2
  refine sw_region ?_
  refine gl_ops 3 [(0, Pp xb 0), (1, .int .i64 4), (2, .string (bs nm)), (3, .slice Ap p.length cp), (4, .int .i64 n), (12, Pp b3 0), (13, Ni (fndI L nm)), (37, Pp xb 0)] (by kernel_rfl) ?_
  refine gl_q rfl rfl rfl (rd_loadK 0 (by kernel_rfl) hH rfl rfl rfl) ?_
  obtain ⟨b9, hb8, hi10⟩ := hH.row_idx 1 rfl (fndI L nm) (by omega)
  refine gl_ops 1 [(0, Pp xb 0), (1, .int .i64 4), (2, .string (bs nm)), (3, .slice Ap p.length cp), (4, .int .i64 n), (12, Pp b3 0), (38, .slice Ar L.length cr), (39, Ni (fndI L nm))] (by kernel_rfl) ?_
  refine gl_q rfl rfl rfl (rd_idx (e := 93) (m := 3) (by kernel_rfl) (by kernel_rfl) rfl rfl hi10) ?_
  refine gl_q rfl rfl rfl (rd_loadOA (q := 3) 1 (by kernel_rfl) hH rfl rfl hb8 (by kernel_rfl) [.string (bs nm), .slice Af b.length cf, Ni sr] rfl (rowC_allO filC_len hq _ rfl)) ?_
  refine gl_st (st_storeKA (vs := [.string (bs nm), .slice Af b.length cf, Ni sr]) 3 rfl rfl rfl hH rfl rfl (by kernel_rfl) (by kernel_rfl) rfl (by simp) [.string (bs nm), .slice Af b.length cf, Ni sr] rfl ?_)
  clear hH; intro w11 hH
  refine gl_done rfl ?_
  refine sw_next ?_
  refine sw_seq ?_
  refine sw_sr ?_
  refine gl_ops 13 [(0, Pp xb 0), (1, .int .i64 4), (2, .string (bs nm)), (3, .slice Ap p.length cp), (4, .int .i64 n), (12, Pp b3 0), (54, .bool false)] (by kernel_rfl) ?_
  refine gl_dn rfl ?_
  refine sw_false rfl rfl ?_
  refine sw_skip ?_
  refine sw_next ?_
  refine sw_sr ?_
  refine gl_ops 3 [(0, Pp xb 0), (1, .int .i64 4), (2, .string (bs nm)), (3, .slice Ap p.length cp), (4, .int .i64 n), (12, Pp b3 0), (57, Pp xb 3)] (by kernel_rfl) ?_
  refine gl_q rfl rfl rfl (rd_loadK 0 (by kernel_rfl) hH rfl rfl rfl) ?_
  refine gl_ops 1 [(0, Pp xb 0), (1, .int .i64 4), (2, .string (bs nm)), (3, .slice Ap p.length cp), (4, .int .i64 n), (12, Pp b3 0), (14, .int .i64 part)] (by kernel_rfl) ?_
  refine gl_dn rfl ?_
  refine sw_sr ?_
  obtain ⟨D2, cu, pt, hcut⟩ : ∃ D2 cu pt, cutD D = (D2, cu, pt) := ⟨_, _, _, rfl⟩
  refine gl_ops 1 [(0, Pp xb 0), (1, .int .i64 4), (2, .string (bs nm)), (3, .slice Ap p.length cp), (4, .int .i64 n), (12, Pp b3 0), (14, .int .i64 part), (59, Pp xb 0)] (by kernel_rfl) ?_
  replace hH : Hp w w11 _ _ ([.blk xb 55 [.slice Ar L.length cr, .bool D.off, .int .i64 (actsI D.ar), .int .i64 part]] ++ [.row (.slice Ar L.length cr) 93 3 L.length (rowC filC L), filRs L, .blk b3 93 [.string (bs nm), .slice Af b.length cf, Ni sr]]) := hH
  refine gl_st (st_call rfl rfl rfl (by kernel_rfl) rfl (RAct_ct xb _ D D2 cu pt part _ hcut hA hH.mine) ?_)
  rintro _ w12 ⟨rfl, hF13⟩
  replace hH := hH.turns hF13; clear hF13
  replace hH : Hp w w12 _ _ [.row (.slice Ar L.length cr) 93 3 L.length (rowC filC L), filRs L, .blk b3 93 [.string (bs nm), .slice Af b.length cf, Ni sr], .blk xb 55 [.slice Ar L.length cr, .bool D2.off, .int .i64 (actsI D2.ar), .int .i64 part]] := hH
  refine gl_ops 1 [(0, Pp xb 0), (1, .int .i64 4), (2, .string (bs nm)), (3, .slice Ap p.length cp), (4, .int .i64 n), (12, Pp b3 0), (14, .int .i64 part), (15, .bool cu)] (by kernel_rfl) ?_
  refine gl_dn rfl ?_
  refine sw_seq ?_
  refine sw_sr ?_
  refine gl_ops 2 [(0, Pp xb 0), (1, .int .i64 4), (2, .string (bs nm)), (3, .slice Ap p.length cp), (4, .int .i64 n), (12, Pp b3 0), (14, .int .i64 part), (15, .bool cu), (62, .bool cu)] (by kernel_rfl) ?_
  refine gl_split 62 (b := cu) rfl (fun hg4 => ?_) (fun hg4 => ?_)
  ·
    refine gl_cv 15 (.bool true) (by rw [hg4]) rfl ?_
    subst hg4
    have hpt := cut_part hcut hP rfl
    refine gl_ops 3 [(0, Pp xb 0), (1, .int .i64 4), (2, .string (bs nm)), (3, .slice Ap p.length cp), (4, .int .i64 n), (12, Pp b3 0), (14, .int .i64 part), (15, .bool true), (65, .bool false)] (by kernel_rfl) ?_
    refine gl_dn rfl ?_
    refine sw_false rfl rfl ?_
    refine sw_skip ?_
    refine sw_next ?_
    refine sw_seq ?_
    refine sw_sr ?_
    refine gl_ops 8 [(0, Pp xb 0), (1, .int .i64 4), (2, .string (bs nm)), (3, .slice Ap p.length cp), (4, .int .i64 n), (12, Pp b3 0), (15, .bool true), (79, .bool false), (80, .int .i64 part)] (by kernel_rfl) ?_
    refine gl_st (st_call rfl rfl rfl (by kernel_rfl) rfl (RMod_ct part 2 _ (by omega) (by omega)) ?_)
    rintro _ w14 ⟨rfl, hF15⟩
    replace hH := hH.call hF15; clear hF15
    refine gl_ops 2 [(0, Pp xb 0), (1, .int .i64 4), (2, .string (bs nm)), (3, .slice Ap p.length cp), (4, .int .i64 n), (12, Pp b3 0), (15, .bool true), (83, .bool (((modI part 2 : Nat) : Int) == (1 : Int)))] (by kernel_rfl) ?_
    refine gl_dn rfl ?_
    refine sw_cond rfl rfl (fun hc6 => ?_) (fun hc6 => ?_)
    ·
      try simp only [beq_iff_eq] at hc6
      refine sw_seq ?_
      refine sw_sr ?_
      refine gl_ops 1 [(0, Pp xb 0), (1, .int .i64 4), (2, .string (bs nm)), (3, .slice Ap p.length cp), (4, .int .i64 n), (12, Pp b3 0), (15, .bool true), (84, .int .i64 4)] (by kernel_rfl) ?_
      refine gl_dn rfl ?_
      refine sw_block ?_
      refine sw_sr ?_
      refine gl_ops 2 [(0, Pp xb 0), (1, .int .i64 4), (2, .string (bs nm)), (3, .slice Ap p.length cp), (4, .int .i64 n), (12, Pp b3 0), (15, .bool true), (84, .int .i64 4), (85, .bool false)] (by kernel_rfl) ?_
      refine gl_dn rfl ?_
      refine sw_false rfl rfl ?_
      refine sw_sr ?_
      refine gl_ops 2 [(0, Pp xb 0), (1, .int .i64 4), (2, .string (bs nm)), (3, .slice Ap p.length cp), (4, .int .i64 n), (12, Pp b3 0), (15, .bool true), (84, .int .i64 4), (94, .bool false)] (by kernel_rfl) ?_
      refine gl_dn rfl ?_
      refine sw_false rfl rfl ?_
      refine sw_sr ?_
      refine gl_ops 2 [(0, Pp xb 0), (1, .int .i64 4), (2, .string (bs nm)), (3, .slice Ap p.length cp), (4, .int .i64 n), (12, Pp b3 0), (15, .bool true), (84, .int .i64 4), (100, .bool false)] (by kernel_rfl) ?_
      refine gl_dn rfl ?_
      refine sw_false rfl rfl ?_
      refine sw_sr ?_
      refine gl_ops 2 [(0, Pp xb 0), (1, .int .i64 4), (2, .string (bs nm)), (4, .int .i64 n), (12, Pp b3 0), (15, .bool true), (109, .bool false)] (by kernel_rfl) ?_
      refine gl_dn rfl ?_
      refine sw_false rfl rfl ?_
      refine sw_skip ?_
      refine bkN ?_
      refine sw_next ?_
      refine sw_sr ?_
      refine gl_ops 2 [(0, Pp xb 0), (2, .string (bs nm)), (12, Pp b3 0), (15, .bool true), (124, .bool true)] (by kernel_rfl) ?_
      refine gl_dn rfl ?_
      refine sw_true rfl rfl ?_
      refine sw_region ?_
      refine gl_ops 2 [(15, .bool true), (125, Pp xb 0), (126, .string (bs nm))] (by kernel_rfl) ?_
      replace hH := hH.pick [3, 0, 1, 2] (by kernel_rfl) (os' := [.blk xb 55 [.slice Ar L.length cr, .bool D2.off, .int .i64 (actsI D2.ar), .int .i64 part], .row (.slice Ar L.length cr) 93 3 L.length (rowC filC L)] ++ [filRs L, .blk b3 93 [.string (bs nm), .slice Af b.length cf, Ni sr]]) (by kernel_rfl)
      refine gl_st (st_call rfl rfl rfl (by kernel_rfl) rfl (RUnset_ct xb _ L nm _ _ _ _ hH.mine hlt hV (by omega)) ?_)
      rintro _ w16 ⟨rv2, rfl, hF17⟩
      replace hH := hH.turns hF17; clear hF17
      replace hH : Hp w w16 _ _ [filRs L, .blk b3 93 [.string (bs nm), .slice Af b.length cf, Ni sr], .blk xb 55 [rv2, .bool D2.off, .int .i64 (actsI D2.ar), .int .i64 part], lstO rv2 (delL L nm)] := hH
      refine gl_done rfl ?_
      refine sw_next ?_
      refine sw_seq ?_
      refine sw_sr ?_
      refine gl_ops 1 [(131, .bool true)] (by kernel_rfl) ?_
      refine gl_dn rfl ?_
      refine sw_true rfl rfl ?_
      refine sw_sr ?_
      refine gl_ops 1 [(10, .int .i64 80)] (by kernel_rfl) ?_
      refine gl_dn rfl ?_
      refine sw_ret ?_
      refine thR ?_
      refine ret1 rfl rfl  ?_
      replace hH := rs_del nm hH
      replace hH := hH.pick [2, 3, 0, 1] (by kernel_rfl) (os' := [.blk xb 55 [rv2, .bool D2.off, .int .i64 (actsI D2.ar), .int .i64 part], lstO rv2 (delL L nm), filRs (delL L nm), .blk b3 93 [.string (bs nm), .slice Af b.length cf, Ni sr]]) (by kernel_rfl)
      replace hH := (hH.sublist (.cons_cons _ (.cons_cons _ (.cons_cons _ (List.nil_sublist _)))))
      replace hH : Hp w w16 _ _ [.blk xb 55 [rv2, .bool D2.off, .int .i64 (actsI D2.ar), .int .i64 part], lstO rv2 (delL L nm), filRs (delL L nm)] := hH
      exact rfin_do (kind := 4) (th := true) (L' := delL L nm) (rv' := rv2) (p) 80 (by simp) rfl hm0 (fun h => absurd h.1 (by decide)) hcut (.inr (.inr (by rw [hpt]; omega))) (by simp) (by rw [delL_fs hF hG.srt hlt]; unfold doF; rfl) ((hH.close (r := [])).turned)
    try simp only [beq_eq_false_iff_ne, ne_eq] at hc6
    have hnrun : ¬ modI part 2 = 1 := by omega
    refine sw_skip ?_
    refine sw_next ?_
    refine sw_seq ?_
    refine sw_sr ?_
    refine gl_ops 1 [(131, .bool true)] (by kernel_rfl) ?_
    refine gl_dn rfl ?_
    refine sw_true rfl rfl ?_
    refine sw_sr ?_
    refine gl_ops 1 [(10, .int .i64 80)] (by kernel_rfl) ?_
    refine gl_dn rfl ?_
    refine sw_ret ?_
    refine thR ?_
    refine ret1 rfl rfl  ?_
    replace hH := hH.pick [3, 0, 1, 2] (by kernel_rfl) (os' := [.blk xb 55 [.slice Ar L.length cr, .bool D2.off, .int .i64 (actsI D2.ar), .int .i64 part], .row (.slice Ar L.length cr) 93 3 L.length (rowC filC L), filRs L, .blk b3 93 [.string (bs nm), .slice Af b.length cf, Ni sr]]) (by kernel_rfl)
    replace hH := (hH.sublist (.cons_cons _ (.cons_cons _ (.cons_cons _ (List.nil_sublist _)))))
    replace hH : Hp w w14 _ _ [.blk xb 55 [.slice Ar L.length cr, .bool D2.off, .int .i64 (actsI D2.ar), .int .i64 part], .row (.slice Ar L.length cr) 93 3 L.length (rowC filC L), filRs L] := hH
    exact rfin_not (kind := 4) (th := true) hF 80 (by simp) rfl hm0 (fun h => absurd h.1 (by decide)) hcut (by rw [hpt]; simp [hnrun]) ((hH.close (r := [])).turned)
  refine gl_cv 15 (.bool false) (by rw [hg4]) rfl ?_
  subst hg4
  refine gl_ops 3 [(0, Pp xb 0), (1, .int .i64 4), (2, .string (bs nm)), (3, .slice Ap p.length cp), (4, .int .i64 n), (12, Pp b3 0), (14, .int .i64 part), (15, .bool false), (65, .bool false)] (by kernel_rfl) ?_
  refine gl_dn rfl ?_
  refine sw_false rfl rfl ?_
  refine sw_skip ?_
  refine sw_next ?_
  refine sw_seq ?_
  refine sw_sr ?_
  refine gl_ops 11 [(0, Pp xb 0), (1, .int .i64 4), (2, .string (bs nm)), (3, .slice Ap p.length cp), (4, .int .i64 n), (12, Pp b3 0), (15, .bool false), (83, .bool true)] (by kernel_rfl) ?_
  refine gl_dn rfl ?_
  refine sw_true rfl rfl ?_
  refine sw_seq ?_
  refine sw_sr ?_
  refine gl_ops 1 [(0, Pp xb 0), (1, .int .i64 4), (2, .string (bs nm)), (3, .slice Ap p.length cp), (4, .int .i64 n), (12, Pp b3 0), (15, .bool false), (84, .int .i64 4)] (by kernel_rfl) ?_
  refine gl_dn rfl ?_
  refine sw_block ?_
  refine sw_sr ?_
  refine gl_ops 2 [(0, Pp xb 0), (1, .int .i64 4), (2, .string (bs nm)), (3, .slice Ap p.length cp), (4, .int .i64 n), (12, Pp b3 0), (15, .bool false), (84, .int .i64 4), (85, .bool false)] (by kernel_rfl) ?_
  refine gl_dn rfl ?_
  refine sw_false rfl rfl ?_
  refine sw_sr ?_
  refine gl_ops 2 [(0, Pp xb 0), (1, .int .i64 4), (2, .string (bs nm)), (3, .slice Ap p.length cp), (4, .int .i64 n), (12, Pp b3 0), (15, .bool false), (84, .int .i64 4), (94, .bool false)] (by kernel_rfl) ?_
  refine gl_dn rfl ?_
  refine sw_false rfl rfl ?_
  refine sw_sr ?_
  refine gl_ops 2 [(0, Pp xb 0), (1, .int .i64 4), (2, .string (bs nm)), (3, .slice Ap p.length cp), (4, .int .i64 n), (12, Pp b3 0), (15, .bool false), (84, .int .i64 4), (100, .bool false)] (by kernel_rfl) ?_
  refine gl_dn rfl ?_
  refine sw_false rfl rfl ?_
  refine sw_sr ?_
  refine gl_ops 2 [(0, Pp xb 0), (1, .int .i64 4), (2, .string (bs nm)), (4, .int .i64 n), (12, Pp b3 0), (15, .bool false), (109, .bool false)] (by kernel_rfl) ?_
  refine gl_dn rfl ?_
  refine sw_false rfl rfl ?_
  refine sw_skip ?_
  refine bkN ?_
  refine sw_next ?_
  refine sw_sr ?_
  refine gl_ops 2 [(0, Pp xb 0), (2, .string (bs nm)), (12, Pp b3 0), (15, .bool false), (124, .bool true)] (by kernel_rfl) ?_
  refine gl_dn rfl ?_
  refine sw_true rfl rfl ?_
  refine sw_region ?_
  refine gl_ops 2 [(15, .bool false), (125, Pp xb 0), (126, .string (bs nm))] (by kernel_rfl) ?_
  replace hH := hH.pick [3, 0, 1, 2] (by kernel_rfl) (os' := [.blk xb 55 [.slice Ar L.length cr, .bool D2.off, .int .i64 (actsI D2.ar), .int .i64 part], .row (.slice Ar L.length cr) 93 3 L.length (rowC filC L)] ++ [filRs L, .blk b3 93 [.string (bs nm), .slice Af b.length cf, Ni sr]]) (by kernel_rfl)
  refine gl_st (st_call rfl rfl rfl (by kernel_rfl) rfl (RUnset_ct xb _ L nm _ _ _ _ hH.mine hlt hV (by omega)) ?_)
  rintro _ w18 ⟨rv2, rfl, hF19⟩
  replace hH := hH.turns hF19; clear hF19
  replace hH : Hp w w18 _ _ [filRs L, .blk b3 93 [.string (bs nm), .slice Af b.length cf, Ni sr], .blk xb 55 [rv2, .bool D2.off, .int .i64 (actsI D2.ar), .int .i64 part], lstO rv2 (delL L nm)] := hH
  refine gl_done rfl ?_
  refine sw_next ?_
  refine sw_seq ?_
  refine sw_sr ?_
  refine gl_ops 1 [(131, .bool false)] (by kernel_rfl) ?_
  refine gl_dn rfl ?_
  refine sw_false rfl rfl ?_
  refine sw_skip ?_
  refine sw_next ?_
  refine sw_sr ?_
  refine gl_ops 1 [(10, .int .i64 0)] (by kernel_rfl) ?_
  refine gl_dn rfl ?_
  refine sw_ret ?_
  refine ret1 rfl rfl  ?_
  replace hH := rs_del nm hH
  replace hH := hH.pick [2, 3, 0, 1] (by kernel_rfl) (os' := [.blk xb 55 [rv2, .bool D2.off, .int .i64 (actsI D2.ar), .int .i64 part], lstO rv2 (delL L nm), filRs (delL L nm), .blk b3 93 [.string (bs nm), .slice Af b.length cf, Ni sr]]) (by kernel_rfl)
  replace hH := (hH.sublist (.cons_cons _ (.cons_cons _ (.cons_cons _ (List.nil_sublist _)))))
  replace hH : Hp w w18 _ _ [.blk xb 55 [rv2, .bool D2.off, .int .i64 (actsI D2.ar), .int .i64 part], lstO rv2 (delL L nm), filRs (delL L nm)] := hH
  exact rfin_do (kind := 4) (th := true) (L' := delL L nm) (rv' := rv2) (p) 0 (by simp) rfl hm0 (fun h => absurd h.1 (by decide)) hcut (.inl rfl) (by simp) (by rw [delL_fs hF hG.srt hlt]; unfold doF; rfl) ((hH.close (r := [])).turned)
end Go.Proofs.YtjcchjgkkplamaaGreatDoor
