/- Layer 20 (vault), the document's own: Save, Load: what they answer. -/
import Derived.Test.YtjcchjgkkplamaaGreatDoorVDisk
import Derived.Test.YtjcchjgkkplamaaGreatDoorRef20
import Derived.Test.YtjcchjgkkplamaaGreatDoorRDoB
set_option maxRecDepth 100000
set_option maxHeartbeats 4000000
set_option linter.unusedVariables false
set_option linter.unusedSimpArgs false
namespace Go.Proofs.YtjcchjgkkplamaaGreatDoor
open Go.RowKit Go.SW

theorem RSave_ct (xb : Nat) (rv : Value) (D : Dsk) (part : Int) (L : FV) (i t : Int) (vc vd : Value) (cf dt : List UInt8) (M : Nat) (w : World) (hM : Mine w [.grp (rdkO xb rv D.off (actsI D.ar) part L)]) (hF : L.map (·.1) = D.fs) (hA : ArOk D.ar) (hP : PartOk D.ar part) (hG : Good D.fs M) (hMM : M ≤ 140737488355328) (hN : L.length ≤ 900000) (hc : RB (off w (blksOf [.grp (rdkO xb rv D.off (actsI D.ar) part L)])) vc cf) (hd : RB (off w (blksOf [.grp (rdkO xb rv D.off (actsI D.ar) part L)])) vd dt) (hi : -9223372036854775808 ≤ i ∧ i ≤ 9223372036854775807) (ht : -9223372036854775808 ≤ t ∧ t ≤ 9223372036854775807) (hdl : dt.length ≤ 140737488355328) :
    Fun Tryz.prog 14 [.pointer (some ⟨xb, 0, none⟩), .agg #[.int .i64 i, .int .i64 t, vc, vd]] w fun v w' => RPost xb rv D part L (saveD D i t cf dt) w v w' := by
  obtain ⟨Ac, cc, rfl, hc1, hc2⟩ := hc.row.form
  obtain ⟨Ad, cd, rfl, hd1, hd2⟩ := hd.row.form
  have hbl := bytesV_length_le i t cf dt
  refine fun_of_sw Tryz.func14 rfl 18 rfl rfl ?_
  have hH := Hp.start_mine hM
  refine sw_sr ?_
  refine gl_st (st_boxH (cs := [.int .i64 i, .int .i64 t, .slice Ac cf.length cc, .slice Ad dt.length cd]) rfl rfl rfl rfl hH ?_)
  clear hH; intro b1 w2 hH
  refine gl_ops 1 [(0, Pp xb 0), (3, Pp b1 0)] (by kernel_rfl) ?_
  refine gl_dn rfl ?_
  refine sw_sr ?_
  refine gl_q rfl rfl rfl (rd_loadKA (m := 4) 1 (by kernel_rfl) hH rfl rfl (by kernel_rfl) [.int .i64 i, .int .i64 t, .slice Ac cf.length cc, .slice Ad dt.length cd] rfl rfl) ?_
  refine gl_st (st_call rfl rfl rfl (by kernel_rfl) rfl (RBytes_ct (i : Int) (t : Int) _ _ _ _ _ (hc.mono hH.zin) (hd.mono hH.zin) (by omega) (by omega) (by omega)) ?_)
  rintro _ w5 ⟨v3, rfl, hF6⟩
  replace hH := hH.call hF6; clear hF6
  obtain ⟨A7, c8, rfl, hl9, hm10⟩ := hH.row_form 2 rfl
  refine gl_ops 5 [(0, Pp xb 0), (5, .slice A7 (((bytesV (i : Int) (t : Int) cf dt).1).length) c8), (6, Ni ((bytesV (i : Int) (t : Int) cf dt).2))] (by kernel_rfl) ?_
  refine gl_dn rfl ?_
  refine sw_seq ?_
  refine sw_sr ?_
  refine gl_ops 2 [(0, Pp xb 0), (5, .slice A7 (((bytesV (i : Int) (t : Int) cf dt).1).length) c8), (6, Ni ((bytesV (i : Int) (t : Int) cf dt).2)), (13, .bool ((((bytesV (i : Int) (t : Int) cf dt).2 : Nat) : Int) != (0 : Int)))] (by kernel_rfl) ?_
  refine gl_dn rfl ?_
  refine sw_cond rfl rfl (fun hc1 => ?_) (fun hc1 => ?_)
  ·
    try simp only [bne_iff_ne, ne_eq] at hc1
    refine sw_sr ?_
    refine gl_ops 2 [(4, Ni ((bytesV (i : Int) (t : Int) cf dt).2))] (by kernel_rfl) ?_
    refine gl_dn rfl ?_
    refine sw_ret ?_
    refine thR ?_
    refine ret1 rfl rfl  ?_
    replace hH := (hH.sublist (.cons_cons _ (List.nil_sublist _)))
    replace hH : Hp w w5 _ _ [.grp (rdkO xb rv D.off (actsI D.ar) part L)] := hH
    rw [save_err (by omega)]
    exact ⟨rv, L, rfl, hF, hH.turned⟩
  try simp only [bne_eq_false_iff_eq] at hc1
  refine sw_skip ?_
  refine sw_next ?_
  refine sw_sr ?_
  refine gl_ops 2 [(15, Pp xb 0), (16, .slice A7 (((bytesV (i : Int) (t : Int) cf dt).1).length) c8)] (by kernel_rfl) ?_
  replace hH : Hp w w5 _ _ ([.grp (rdkO xb rv D.off (actsI D.ar) part L)] ++ [.blk b1 24 [.int .i64 i, .int .i64 t, .slice Ac cf.length cc, .slice Ad dt.length cd], .row (.slice A7 (((bytesV (i : Int) (t : Int) cf dt).1).length) c8) 5 1 (((bytesV (i : Int) (t : Int) cf dt).1).length) (bv ((bytesV (i : Int) (t : Int) cf dt).1))]) := hH
  refine gl_st (st_call rfl rfl rfl (by kernel_rfl) rfl (RDo2_ct xb _ D part L [115, 110, 97, 112] _ (bytesV i t cf dt).1 0 M _ hH.mine hF hA hP hG hMM hN (by simp) (zoff_row (mine := [.grp (rdkO xb rv D.off (actsI D.ar) part L)]) hH 1 rfl) (by omega)) ?_)
  rintro _ w11 ⟨rv2, L2, rfl, hL2, hF12⟩
  replace hH := hH.turns hF12; clear hF12
  replace hH : Hp w w11 _ _ [.blk b1 24 [.int .i64 i, .int .i64 t, .slice Ac cf.length cc, .slice Ad dt.length cd], .row (.slice A7 (((bytesV (i : Int) (t : Int) cf dt).1).length) c8) 5 1 (((bytesV (i : Int) (t : Int) cf dt).1).length) (bv ((bytesV (i : Int) (t : Int) cf dt).1)), .grp (rdkO xb rv2 (doD D 2 [115, 110, 97, 112] (bytesV i t cf dt).1 0).1.off (actsI (doD D 2 [115, 110, 97, 112] (bytesV i t cf dt).1 0).1.ar) part L2)] := hH
  refine gl_ops 1 [(4, Ni ((doD D 2 [115, 110, 97, 112] (bytesV i t cf dt).1 0).2))] (by kernel_rfl) ?_
  refine gl_dn rfl ?_
  refine sw_ret ?_
  refine ret1 rfl rfl  ?_
  replace hH := hH.pick [2, 0, 1] (by kernel_rfl) (os' := [.grp (rdkO xb rv2 (doD D 2 [115, 110, 97, 112] (bytesV i t cf dt).1 0).1.off (actsI (doD D 2 [115, 110, 97, 112] (bytesV i t cf dt).1 0).1.ar) part L2), .blk b1 24 [.int .i64 i, .int .i64 t, .slice Ac cf.length cc, .slice Ad dt.length cd], .row (.slice A7 (((bytesV (i : Int) (t : Int) cf dt).1).length) c8) 5 1 (((bytesV (i : Int) (t : Int) cf dt).1).length) (bv ((bytesV (i : Int) (t : Int) cf dt).1))]) (by kernel_rfl)
  replace hH := (hH.sublist (.cons_cons _ (List.nil_sublist _)))
  replace hH : Hp w w11 _ _ [.grp (rdkO xb rv2 (doD D 2 [115, 110, 97, 112] (bytesV i t cf dt).1 0).1.off (actsI (doD D 2 [115, 110, 97, 112] (bytesV i t cf dt).1 0).1.ar) part L2)] := hH
  rw [save_ok (by omega)]
  exact ⟨rv2, L2, rfl, hL2, hH.turned⟩
theorem RLoad_ct (xb : Nat) (rv : Value) (D : Dsk) (part : Int) (L : FV) (M : Nat) (w : World) (hM : Mine w [.grp (rdkO xb rv D.off (actsI D.ar) part L)]) (hF : L.map (·.1) = D.fs) (hG : Good D.fs M) (hMM : M ≤ 140737488355328) :
    Fun Tryz.prog 20 [.pointer (some ⟨xb, 0, none⟩)] w fun v w' => ∃ v1 v2, v = .tuple #[.agg #[.int .i64 (loadD D).1.idx, .int .i64 (loadD D).1.term, v1, v2], .bool (loadD D).2.1, .int .i64 (((loadD D).2.2 : Nat) : Int)] ∧ Turn w w' [.grp (rdkO xb rv D.off (actsI D.ar) part L)] [.grp (rdkO xb rv D.off (actsI D.ar) part L), .row v1 5 1 (loadD D).1.conf.length (bv (loadD D).1.conf), .row v2 5 1 (loadD D).1.data.length (bv (loadD D).1.data)] := by
  have hrl := Nat.le_trans (readD_le hG [115, 110, 97, 112]) hMM
  refine fun_of_sw Tryz.func20 rfl 29 rfl rfl ?_
  have hH := Hp.start_mine hM
  refine sw_sr ?_
  refine gl_st (st_allocH rfl rfl rfl (cs := [.int .i64 0, .int .i64 0, .slice none 0 0, .slice none 0 0]) (by kernel_rfl) hH ?_)
  clear hH; intro b1 w2 hH
  refine gl_ops 2 [(0, Pp xb 0), (2, Pp b1 0)] (by kernel_rfl) ?_
  refine gl_dn rfl ?_
  refine sw_sr ?_
  refine gl_ops 1 [(2, Pp b1 0), (9, Pp xb 0)] (by kernel_rfl) ?_
  replace hH : Hp w w2 _ _ ([.grp (rdkO xb rv D.off (actsI D.ar) part L)] ++ [.blk b1 24 [.int .i64 0, .int .i64 0, .slice none 0 0, .slice none 0 0]]) := hH
  refine gl_st (st_call rfl rfl rfl (by kernel_rfl) rfl (RDRead_ct xb _ D part L [115, 110, 97, 112] _ hH.mine hF (by simp) (fun f hf => Nat.le_trans (hG.short f hf) hMM)) ?_)
  rintro _ w5 ⟨v3, rfl, hF6⟩
  replace hH := hH.turns hF6; clear hF6
  replace hH : Hp w w5 _ _ [.blk b1 24 [.int .i64 0, .int .i64 0, .slice none 0 0, .slice none 0 0], .grp (rdkO xb rv D.off (actsI D.ar) part L), .row v3 5 1 ((readD D [115, 110, 97, 112]).1.length) (bv (readD D [115, 110, 97, 112]).1)] := hH
  obtain ⟨A7, c8, rfl, hl9, hm10⟩ := hH.row_form 2 rfl
  refine gl_ops 5 [(2, Pp b1 0), (5, .slice A7 ((readD D [115, 110, 97, 112]).1.length) c8), (6, Ni ((readD D [115, 110, 97, 112]).2))] (by kernel_rfl) ?_
  refine gl_dn rfl ?_
  refine sw_seq ?_
  refine sw_sr ?_
  refine gl_ops 2 [(2, Pp b1 0), (5, .slice A7 ((readD D [115, 110, 97, 112]).1.length) c8), (6, Ni ((readD D [115, 110, 97, 112]).2)), (14, .bool ((((readD D [115, 110, 97, 112]).2 : Nat) : Int) == (81 : Int)))] (by kernel_rfl) ?_
  refine gl_dn rfl ?_
  refine sw_cond rfl rfl (fun hc1 => ?_) (fun hc1 => ?_)
  ·
    try simp only [beq_iff_eq] at hc1
    refine sw_sr ?_
    refine gl_ops 1 [(2, Pp b1 0), (15, .agg #[.int .i64 0, .int .i64 0, .slice none 0 0, .slice none 0 0])] (by kernel_rfl) ?_
    refine gl_st (st_storeKA (vs := [.int .i64 0, .int .i64 0, .slice none 0 0, .slice none 0 0]) 0 rfl rfl rfl hH rfl rfl (by kernel_rfl) (by kernel_rfl) rfl (by simp) [.int .i64 0, .int .i64 0, .slice none 0 0, .slice none 0 0] rfl ?_)
    clear hH; intro w11 hH
    refine gl_ops 2 [(2, Pp b1 0), (3, .bool false), (4, .int .i64 0)] (by kernel_rfl) ?_
    refine gl_dn rfl ?_
    refine sw_ret ?_
    refine thR ?_
    refine retC3 rfl (RS.cellA hH 0 (by kernel_rfl) rfl rfl (by kernel_rfl) [.int .i64 0, .int .i64 0, .slice none 0 0, .slice none 0 0] rfl rfl) (RS.tmp rfl) (RS.tmp rfl) ?_
    have hr := load_no (D := D) (by omega)
    replace hH := (hH.nilRow 5 1).nilRow 5 1
    replace hH : Hp w w11 _ _ [.blk b1 24 [.int .i64 0, .int .i64 0, .slice none 0 0, .slice none 0 0], .grp (rdkO xb rv D.off (actsI D.ar) part L), .row (.slice A7 ((readD D [115, 110, 97, 112]).1.length) c8) 5 1 ((readD D [115, 110, 97, 112]).1.length) (bv (readD D [115, 110, 97, 112]).1), .row (.slice none 0 0) 5 1 0 [], .row (.slice none 0 0) 5 1 0 []] := hH
    replace hH := hH.pick [1, 3, 4, 0, 2] (by kernel_rfl) (os' := [.grp (rdkO xb rv D.off (actsI D.ar) part L), .row (.slice none 0 0) 5 1 0 [], .row (.slice none 0 0) 5 1 0 [], .blk b1 24 [.int .i64 0, .int .i64 0, .slice none 0 0, .slice none 0 0], .row (.slice A7 ((readD D [115, 110, 97, 112]).1.length) c8) 5 1 ((readD D [115, 110, 97, 112]).1.length) (bv (readD D [115, 110, 97, 112]).1)]) (by kernel_rfl)
    replace hH := (hH.sublist (.cons_cons _ (.cons_cons _ (.cons_cons _ (List.nil_sublist _)))))
    replace hH : Hp w w11 _ _ [.grp (rdkO xb rv D.off (actsI D.ar) part L), .row (.slice none 0 0) 5 1 0 [], .row (.slice none 0 0) 5 1 0 []] := hH
    exact ⟨_, _, by rw [hr] <;> rfl, by rw [hr]; exact hH.turned⟩
  try simp only [beq_eq_false_iff_ne, ne_eq] at hc1
  refine sw_skip ?_
  refine sw_next ?_
  refine sw_seq ?_
  refine sw_sr ?_
  refine gl_ops 2 [(2, Pp b1 0), (5, .slice A7 ((readD D [115, 110, 97, 112]).1.length) c8), (6, Ni ((readD D [115, 110, 97, 112]).2)), (17, .bool ((((readD D [115, 110, 97, 112]).2 : Nat) : Int) != (0 : Int)))] (by kernel_rfl) ?_
  refine gl_dn rfl ?_
  refine sw_cond rfl rfl (fun hc2 => ?_) (fun hc2 => ?_)
  ·
    try simp only [bne_iff_ne, ne_eq] at hc2
    refine sw_sr ?_
    refine gl_ops 2 [(2, Pp b1 0), (18, .agg #[.int .i64 0, .int .i64 0, .slice none 0 0, .slice none 0 0]), (19, Ni ((readD D [115, 110, 97, 112]).2))] (by kernel_rfl) ?_
    refine gl_st (st_storeKA (vs := [.int .i64 0, .int .i64 0, .slice none 0 0, .slice none 0 0]) 0 rfl rfl rfl hH rfl rfl (by kernel_rfl) (by kernel_rfl) rfl (by simp) [.int .i64 0, .int .i64 0, .slice none 0 0, .slice none 0 0] rfl ?_)
    clear hH; intro w12 hH
    refine gl_ops 2 [(2, Pp b1 0), (3, .bool false), (4, Ni ((readD D [115, 110, 97, 112]).2))] (by kernel_rfl) ?_
    refine gl_dn rfl ?_
    refine sw_ret ?_
    refine thR ?_
    refine retC3 rfl (RS.cellA hH 0 (by kernel_rfl) rfl rfl (by kernel_rfl) [.int .i64 0, .int .i64 0, .slice none 0 0, .slice none 0 0] rfl rfl) (RS.tmp rfl) (RS.tmp rfl) ?_
    have hr := load_err (D := D) (by omega) (by omega)
    replace hH := (hH.nilRow 5 1).nilRow 5 1
    replace hH : Hp w w12 _ _ [.blk b1 24 [.int .i64 0, .int .i64 0, .slice none 0 0, .slice none 0 0], .grp (rdkO xb rv D.off (actsI D.ar) part L), .row (.slice A7 ((readD D [115, 110, 97, 112]).1.length) c8) 5 1 ((readD D [115, 110, 97, 112]).1.length) (bv (readD D [115, 110, 97, 112]).1), .row (.slice none 0 0) 5 1 0 [], .row (.slice none 0 0) 5 1 0 []] := hH
    replace hH := hH.pick [1, 3, 4, 0, 2] (by kernel_rfl) (os' := [.grp (rdkO xb rv D.off (actsI D.ar) part L), .row (.slice none 0 0) 5 1 0 [], .row (.slice none 0 0) 5 1 0 [], .blk b1 24 [.int .i64 0, .int .i64 0, .slice none 0 0, .slice none 0 0], .row (.slice A7 ((readD D [115, 110, 97, 112]).1.length) c8) 5 1 ((readD D [115, 110, 97, 112]).1.length) (bv (readD D [115, 110, 97, 112]).1)]) (by kernel_rfl)
    replace hH := (hH.sublist (.cons_cons _ (.cons_cons _ (.cons_cons _ (List.nil_sublist _)))))
    replace hH : Hp w w12 _ _ [.grp (rdkO xb rv D.off (actsI D.ar) part L), .row (.slice none 0 0) 5 1 0 [], .row (.slice none 0 0) 5 1 0 []] := hH
    exact ⟨_, _, by rw [hr] <;> rfl, by rw [hr]; exact hH.turned⟩
  try simp only [bne_eq_false_iff_eq] at hc2
  refine sw_skip ?_
  refine sw_next ?_
  refine sw_sr ?_
  refine gl_ops 1 [(2, Pp b1 0), (21, .slice A7 ((readD D [115, 110, 97, 112]).1.length) c8)] (by kernel_rfl) ?_
  refine gl_st (st_call rfl rfl rfl (by kernel_rfl) rfl (RRead_ct _ ((readD D [115, 110, 97, 112]).1) _ (rb_own hH 2 rfl) (by first | omega | (simp <;> omega))) ?_)
  rintro _ w17 ⟨v13, v14, rfl, hF18⟩
  replace hH := hH.call hF18; clear hF18
  obtain ⟨A19, c20, rfl, hl21, hm22⟩ := hH.row_form 3 rfl
  obtain ⟨A23, c24, rfl, hl25, hm26⟩ := hH.row_form 4 rfl
  refine gl_ops 3 [(2, Pp b1 0), (23, .agg #[.int .i64 ((readV ((readD D [115, 110, 97, 112]).1)).1.idx), .int .i64 ((readV ((readD D [115, 110, 97, 112]).1)).1.term), .slice A19 (((readV ((readD D [115, 110, 97, 112]).1)).1.conf).length) c20, .slice A23 (((readV ((readD D [115, 110, 97, 112]).1)).1.data).length) c24]), (24, Ni ((readV ((readD D [115, 110, 97, 112]).1)).2))] (by kernel_rfl) ?_
  refine gl_st (st_allocH rfl rfl rfl (cs := [.int .i64 0, .int .i64 0, .slice none 0 0, .slice none 0 0]) (by kernel_rfl) hH ?_)
  clear hH; intro b27 w28 hH
  refine gl_st (st_storeKA (vs := [.int .i64 ((readV ((readD D [115, 110, 97, 112]).1)).1.idx), .int .i64 ((readV ((readD D [115, 110, 97, 112]).1)).1.term), .slice A19 (((readV ((readD D [115, 110, 97, 112]).1)).1.conf).length) c20, .slice A23 (((readV ((readD D [115, 110, 97, 112]).1)).1.data).length) c24]) 5 rfl rfl rfl hH rfl rfl (by kernel_rfl) (by kernel_rfl) rfl (by simp) [.int .i64 ((readV ((readD D [115, 110, 97, 112]).1)).1.idx), .int .i64 ((readV ((readD D [115, 110, 97, 112]).1)).1.term), .slice A19 (((readV ((readD D [115, 110, 97, 112]).1)).1.conf).length) c20, .slice A23 (((readV ((readD D [115, 110, 97, 112]).1)).1.data).length) c24] rfl ?_)
  clear hH; intro w29 hH
  refine gl_ops 1 [(2, Pp b1 0), (6, Ni ((readV ((readD D [115, 110, 97, 112]).1)).2)), (7, Pp b27 0)] (by kernel_rfl) ?_
  refine gl_dn rfl ?_
  refine sw_sr ?_
  refine gl_q rfl rfl rfl (rd_loadKA (m := 4) 5 (by kernel_rfl) hH rfl rfl (by kernel_rfl) [.int .i64 ((readV ((readD D [115, 110, 97, 112]).1)).1.idx), .int .i64 ((readV ((readD D [115, 110, 97, 112]).1)).1.term), .slice A19 (((readV ((readD D [115, 110, 97, 112]).1)).1.conf).length) c20, .slice A23 (((readV ((readD D [115, 110, 97, 112]).1)).1.data).length) c24] rfl rfl) ?_
  refine gl_ops 2 [(2, Pp b1 0), (6, Ni ((readV ((readD D [115, 110, 97, 112]).1)).2)), (25, .agg #[.int .i64 ((readV ((readD D [115, 110, 97, 112]).1)).1.idx), .int .i64 ((readV ((readD D [115, 110, 97, 112]).1)).1.term), .slice A19 (((readV ((readD D [115, 110, 97, 112]).1)).1.conf).length) c20, .slice A23 (((readV ((readD D [115, 110, 97, 112]).1)).1.data).length) c24]), (27, .bool ((((readV ((readD D [115, 110, 97, 112]).1)).2 : Nat) : Int) == (0 : Int)))] (by kernel_rfl) ?_
  refine gl_cv 27 (.bool ((readV (readD D [115, 110, 97, 112]).1).2 == 0)) (by rw [int_beq0]) rfl ?_
  refine gl_ops 1 [(2, Pp b1 0), (25, .agg #[.int .i64 ((readV ((readD D [115, 110, 97, 112]).1)).1.idx), .int .i64 ((readV ((readD D [115, 110, 97, 112]).1)).1.term), .slice A19 (((readV ((readD D [115, 110, 97, 112]).1)).1.conf).length) c20, .slice A23 (((readV ((readD D [115, 110, 97, 112]).1)).1.data).length) c24]), (27, .bool ((readV (readD D [115, 110, 97, 112]).1).2 == 0)), (28, Ni ((readV ((readD D [115, 110, 97, 112]).1)).2))] (by kernel_rfl) ?_
  refine gl_st (st_storeKA (vs := [.int .i64 ((readV ((readD D [115, 110, 97, 112]).1)).1.idx), .int .i64 ((readV ((readD D [115, 110, 97, 112]).1)).1.term), .slice A19 (((readV ((readD D [115, 110, 97, 112]).1)).1.conf).length) c20, .slice A23 (((readV ((readD D [115, 110, 97, 112]).1)).1.data).length) c24]) 0 rfl rfl rfl hH rfl rfl (by kernel_rfl) (by kernel_rfl) rfl (by simp) [.int .i64 ((readV ((readD D [115, 110, 97, 112]).1)).1.idx), .int .i64 ((readV ((readD D [115, 110, 97, 112]).1)).1.term), .slice A19 (((readV ((readD D [115, 110, 97, 112]).1)).1.conf).length) c20, .slice A23 (((readV ((readD D [115, 110, 97, 112]).1)).1.data).length) c24] rfl ?_)
  clear hH; intro w30 hH
  refine gl_ops 2 [(2, Pp b1 0), (3, .bool ((readV (readD D [115, 110, 97, 112]).1).2 == 0)), (4, Ni ((readV ((readD D [115, 110, 97, 112]).1)).2))] (by kernel_rfl) ?_
  refine gl_dn rfl ?_
  refine sw_ret ?_
  refine retC3 rfl (RS.cellA hH 0 (by kernel_rfl) rfl rfl (by kernel_rfl) [.int .i64 ((readV ((readD D [115, 110, 97, 112]).1)).1.idx), .int .i64 ((readV ((readD D [115, 110, 97, 112]).1)).1.term), .slice A19 (((readV ((readD D [115, 110, 97, 112]).1)).1.conf).length) c20, .slice A23 (((readV ((readD D [115, 110, 97, 112]).1)).1.data).length) c24] rfl rfl) (RS.tmp rfl) (RS.tmp rfl) ?_
  have hr := load_ok (D := D) (by omega)
  replace hH := hH.pick [1, 3, 4, 0, 2, 5] (by kernel_rfl) (os' := [.grp (rdkO xb rv D.off (actsI D.ar) part L), .row (.slice A19 (((readV ((readD D [115, 110, 97, 112]).1)).1.conf).length) c20) 5 1 (((readV ((readD D [115, 110, 97, 112]).1)).1.conf).length) (bv ((readV ((readD D [115, 110, 97, 112]).1)).1.conf)), .row (.slice A23 (((readV ((readD D [115, 110, 97, 112]).1)).1.data).length) c24) 5 1 (((readV ((readD D [115, 110, 97, 112]).1)).1.data).length) (bv ((readV ((readD D [115, 110, 97, 112]).1)).1.data)), .blk b1 24 [.int .i64 ((readV ((readD D [115, 110, 97, 112]).1)).1.idx), .int .i64 ((readV ((readD D [115, 110, 97, 112]).1)).1.term), .slice A19 (((readV ((readD D [115, 110, 97, 112]).1)).1.conf).length) c20, .slice A23 (((readV ((readD D [115, 110, 97, 112]).1)).1.data).length) c24], .row (.slice A7 ((readD D [115, 110, 97, 112]).1.length) c8) 5 1 ((readD D [115, 110, 97, 112]).1.length) (bv (readD D [115, 110, 97, 112]).1), .blk b27 24 [.int .i64 ((readV ((readD D [115, 110, 97, 112]).1)).1.idx), .int .i64 ((readV ((readD D [115, 110, 97, 112]).1)).1.term), .slice A19 (((readV ((readD D [115, 110, 97, 112]).1)).1.conf).length) c20, .slice A23 (((readV ((readD D [115, 110, 97, 112]).1)).1.data).length) c24]]) (by kernel_rfl)
  replace hH := (hH.sublist (.cons_cons _ (.cons_cons _ (.cons_cons _ (List.nil_sublist _)))))
  replace hH : Hp w w30 _ _ [.grp (rdkO xb rv D.off (actsI D.ar) part L), .row (.slice A19 (((readV ((readD D [115, 110, 97, 112]).1)).1.conf).length) c20) 5 1 (((readV ((readD D [115, 110, 97, 112]).1)).1.conf).length) (bv ((readV ((readD D [115, 110, 97, 112]).1)).1.conf)), .row (.slice A23 (((readV ((readD D [115, 110, 97, 112]).1)).1.data).length) c24) 5 1 (((readV ((readD D [115, 110, 97, 112]).1)).1.data).length) (bv ((readV ((readD D [115, 110, 97, 112]).1)).1.data))] := hH
  exact ⟨_, _, by rw [hr] <;> rfl, by rw [hr]; exact hH.turned⟩
end Go.Proofs.YtjcchjgkkplamaaGreatDoor
