/- Layer 20 (vault), the program's and the document's: Save, Load: what they answer. -/
import Derived.Test.YtjcchjgkkplamaaGreatDoorVault
import Derived.Test.YtjcchjgkkplamaaGreatDoorDisk2
import Derived.Test.YtjcchjgkkplamaaGreatDoorIs
import Derived.Test.YtjcchjgkkplamaaGreatDoorCalc
set_option maxRecDepth 100000
set_option maxHeartbeats 4000000
set_option linter.unusedVariables false
set_option linter.unusedSimpArgs false
namespace Go.Proofs.YtjcchjgkkplamaaGreatDoor
open Go.RowKit Go.SW
def saveD (D : Dsk) (i t : Int) (cf dt : List UInt8) : Dsk × Nat := if (bytesV i t cf dt).2 ≠ 0 then (D, (bytesV i t cf dt).2) else doD D 2 [115, 110, 97, 112] (bytesV i t cf dt).1 0
def loadD (D : Dsk) : Snp × Bool × Nat :=
  if (readD D [115, 110, 97, 112]).2 = 81 then (Snp.none, false, 0) else if (readD D [115, 110, 97, 112]).2 ≠ 0 then (Snp.none, false, (readD D [115, 110, 97, 112]).2)
  else ((readV (readD D [115, 110, 97, 112]).1).1, (readV (readD D [115, 110, 97, 112]).1).2 == 0, (readV (readD D [115, 110, 97, 112]).1).2)
theorem save_err {D : Dsk} {i t : Int} {cf dt : List UInt8} (h : (bytesV i t cf dt).2 ≠ 0) : saveD D i t cf dt = (D, (bytesV i t cf dt).2) := if_pos h
theorem save_ok {D : Dsk} {i t : Int} {cf dt : List UInt8} (h : (bytesV i t cf dt).2 = 0) : saveD D i t cf dt = doD D 2 [115, 110, 97, 112] (bytesV i t cf dt).1 0 := if_neg (fun h2 => h2 h)
theorem load_no {D : Dsk} (h : (readD D [115, 110, 97, 112]).2 = 81) : loadD D = (Snp.none, false, 0) := if_pos h
theorem load_err {D : Dsk} (h : (readD D [115, 110, 97, 112]).2 ≠ 81) (h2 : (readD D [115, 110, 97, 112]).2 ≠ 0) : loadD D = (Snp.none, false, (readD D [115, 110, 97, 112]).2) := by unfold loadD; rw [if_neg h, if_pos h2]
theorem load_ok {D : Dsk} (h2 : (readD D [115, 110, 97, 112]).2 = 0) : loadD D = ((readV (readD D [115, 110, 97, 112]).1).1, (readV (readD D [115, 110, 97, 112]).1).2 == 0, (readV (readD D [115, 110, 97, 112]).1).2) := by
  unfold loadD; rw [if_neg (by omega), if_neg (by omega)]
theorem int_beq0 (n : Nat) : (((n : Nat) : Int) == (0 : Int)) = (n == 0) := by rw [Bool.eq_iff_iff]; simp
theorem readD_le {D : Dsk} {M : Nat} (h : Good D.fs M) (nm : List UInt8) : (readD D nm).1.length ≤ M := by
  unfold readD
  split
  · simp
  · exact (good_old h nm).2.1

theorem Save_ct (db mb ab : Nat) (D : Dsk) (es : List PE) (i t : Int) (vc vd : Value) (cf dt : List UInt8) (M : Nat) (w : World) (hM : Mine w [.grp (dskO db mb ab D es)]) (hR : Rep es D.fs) (hA : ArOk D.ar) (hG : Good D.fs M) (hMM : M ≤ 140737488355328) (hc : RB (off w (blksOf [.grp (dskO db mb ab D es)])) vc cf) (hd : RB (off w (blksOf [.grp (dskO db mb ab D es)])) vd dt) (hi : -9223372036854775808 ≤ i ∧ i ≤ 9223372036854775807) (ht : -9223372036854775808 ≤ t ∧ t ≤ 9223372036854775807) (hdl : dt.length ≤ 140737488355328) :
    Fun Tryz.prog 7 [.pointer (some ⟨db, 0, none⟩), .agg #[.int .i64 i, .int .i64 t, vc, vd]] w fun v w' => ActPost db mb ab D es (saveD D i t cf dt) w v w' := by
  obtain ⟨Ac, cc, rfl, hc1, hc2⟩ := hc.row.form
  obtain ⟨Ad, cd, rfl, hd1, hd2⟩ := hd.row.form
  have hbl := bytesV_length_le i t cf dt
  refine fun_of_sw Tryz.func7 rfl 18 rfl rfl ?_
  have hH := Hp.start_mine hM
  refine sw_sr ?_
  refine gl_st (st_boxH (cs := [.int .i64 i, .int .i64 t, .slice Ac cf.length cc, .slice Ad dt.length cd]) rfl rfl rfl rfl hH ?_)
  clear hH; intro b1 w2 hH
  refine gl_ops 1 [(0, Pp db 0), (3, Pp b1 0)] (by kernel_rfl) ?_
  refine gl_dn rfl ?_
  refine sw_sr ?_
  refine gl_q rfl rfl rfl (rd_loadKA (m := 4) 1 (by kernel_rfl) hH rfl rfl (by kernel_rfl) [.int .i64 i, .int .i64 t, .slice Ac cf.length cc, .slice Ad dt.length cd] rfl rfl) ?_
  refine gl_st (st_call rfl rfl rfl (by kernel_rfl) rfl (Bytes_ct _ _ _ _ _ _ _ (hc.mono hH.zin) (hd.mono hH.zin) (by omega) (by omega) (by omega)) ?_)
  rintro _ w5 ⟨v3, rfl, hF6⟩
  replace hH := hH.call hF6; clear hF6
  obtain ⟨A7, c8, rfl, hl9, hm10⟩ := hH.row_form 2 rfl
  refine gl_ops 5 [(0, Pp db 0), (5, .slice A7 (((bytesV i t cf dt).1).length) c8), (6, errV ((bytesV i t cf dt).2))] (by kernel_rfl) ?_
  refine gl_dn rfl ?_
  refine sw_seq ?_
  refine sw_sr ?_
  refine gl_ops 1 [(0, Pp db 0), (5, .slice A7 (((bytesV i t cf dt).1).length) c8), (6, errV ((bytesV i t cf dt).2)), (12, errV ((bytesV i t cf dt).2))] (by kernel_rfl) ?_
  refine gl_q rfl rfl rfl (rd_err_ne (by kernel_rfl) rfl) ?_
  refine gl_dn rfl ?_
  refine sw_cond rfl rfl (fun hc1 => ?_) (fun hc1 => ?_)
  ·
    try simp only [bne_iff_ne, ne_eq] at hc1
    refine sw_sr ?_
    refine gl_ops 2 [(4, errV ((bytesV i t cf dt).2))] (by kernel_rfl) ?_
    refine gl_dn rfl ?_
    refine sw_ret ?_
    refine thR ?_
    refine ret1 rfl rfl  ?_
    replace hH := (hH.sublist (.cons_cons _ (List.nil_sublist _)))
    replace hH : Hp w w5 _ _ [.grp (dskO db mb ab D es)] := hH
    rw [save_err (by omega)]
    exact ⟨es, rfl, hR, hH.turned⟩
  try simp only [bne_eq_false_iff_eq] at hc1
  refine sw_skip ?_
  refine sw_next ?_
  refine sw_sr ?_
  refine gl_ops 2 [(15, Pp db 0), (16, .slice A7 (((bytesV i t cf dt).1).length) c8)] (by kernel_rfl) ?_
  replace hH : Hp w w5 _ _ ([.grp (dskO db mb ab D es)] ++ [.blk b1 24 [.int .i64 i, .int .i64 t, .slice Ac cf.length cc, .slice Ad dt.length cd], .row (.slice A7 (((bytesV i t cf dt).1).length) c8) 5 1 (((bytesV i t cf dt).1).length) (bv ((bytesV i t cf dt).1))]) := hH
  refine gl_st (st_call rfl rfl rfl (by kernel_rfl) rfl (DPut_ct db mb ab D es [115, 110, 97, 112] _ (bytesV i t cf dt).1 M _ hH.mine hR hA hG hMM (by simp) (zoff_row (mine := [.grp (dskO db mb ab D es)]) hH 1 rfl) (by omega)) ?_)
  rintro _ w11 ⟨es2, rfl, hR2, hF12⟩
  replace hH := hH.turns hF12; clear hF12
  replace hH : Hp w w11 _ _ [.blk b1 24 [.int .i64 i, .int .i64 t, .slice Ac cf.length cc, .slice Ad dt.length cd], .row (.slice A7 (((bytesV i t cf dt).1).length) c8) 5 1 (((bytesV i t cf dt).1).length) (bv ((bytesV i t cf dt).1)), .grp (dskO db mb ab (doD D 2 [115, 110, 97, 112] (bytesV i t cf dt).1 0).1 es2)] := hH
  refine gl_ops 1 [(4, errV ((doD D 2 [115, 110, 97, 112] (bytesV i t cf dt).1 0).2))] (by kernel_rfl) ?_
  refine gl_dn rfl ?_
  refine sw_ret ?_
  refine ret1 rfl rfl  ?_
  replace hH := hH.pick [2, 0, 1] (by kernel_rfl) (os' := [.grp (dskO db mb ab (doD D 2 [115, 110, 97, 112] (bytesV i t cf dt).1 0).1 es2), .blk b1 24 [.int .i64 i, .int .i64 t, .slice Ac cf.length cc, .slice Ad dt.length cd], .row (.slice A7 (((bytesV i t cf dt).1).length) c8) 5 1 (((bytesV i t cf dt).1).length) (bv ((bytesV i t cf dt).1))]) (by kernel_rfl)
  replace hH := (hH.sublist (.cons_cons _ (List.nil_sublist _)))
  replace hH : Hp w w11 _ _ [.grp (dskO db mb ab (doD D 2 [115, 110, 97, 112] (bytesV i t cf dt).1 0).1 es2)] := hH
  rw [save_ok (by omega)]
  exact ⟨es2, rfl, hR2, hH.turned⟩
theorem Load_ct (db mb ab : Nat) (D : Dsk) (es : List PE) (M : Nat) (w : World) (hM : Mine w [.grp (dskO db mb ab D es)]) (hR : Rep es D.fs) (hA : ArOk D.ar) (hG : Good D.fs M) (hMM : M ≤ 140737488355328) :
    Fun Tryz.prog 8 [.pointer (some ⟨db, 0, none⟩)] w fun v w' => ∃ v1 v2, v = .tuple #[.agg #[.int .i64 (loadD D).1.idx, .int .i64 (loadD D).1.term, v1, v2], .bool (loadD D).2.1, errV (loadD D).2.2] ∧ Turn w w' [.grp (dskO db mb ab D es)] [.grp (dskO db mb ab D es), .row v1 5 1 (loadD D).1.conf.length (bv (loadD D).1.conf), .row v2 5 1 (loadD D).1.data.length (bv (loadD D).1.data)] := by
  have hrl := Nat.le_trans (readD_le hG [115, 110, 97, 112]) hMM
  refine fun_of_sw Tryz.func8 rfl 30 rfl rfl ?_
  have hH := Hp.start_mine hM
  refine sw_sr ?_
  refine gl_st (st_allocH rfl rfl rfl (cs := [.int .i64 0, .int .i64 0, .slice none 0 0, .slice none 0 0]) (by kernel_rfl) hH ?_)
  clear hH; intro b1 w2 hH
  refine gl_ops 2 [(0, Pp db 0), (2, Pp b1 0)] (by kernel_rfl) ?_
  refine gl_dn rfl ?_
  refine sw_sr ?_
  refine gl_ops 1 [(2, Pp b1 0), (9, Pp db 0)] (by kernel_rfl) ?_
  replace hH : Hp w w2 _ _ ([.grp (dskO db mb ab D es)] ++ [.blk b1 24 [.int .i64 0, .int .i64 0, .slice none 0 0, .slice none 0 0]]) := hH
  refine gl_st (st_call rfl rfl rfl (by kernel_rfl) rfl (DRead_ct db mb ab D es [115, 110, 97, 112] M _ hH.mine hR hA hG hMM (by simp)) ?_)
  rintro _ w5 ⟨v3, rfl, hF6⟩
  replace hH := hH.turns hF6; clear hF6
  replace hH : Hp w w5 _ _ [.blk b1 24 [.int .i64 0, .int .i64 0, .slice none 0 0, .slice none 0 0], .grp (dskO db mb ab D es), .row v3 5 1 ((readD D [115, 110, 97, 112]).1.length) (bv (readD D [115, 110, 97, 112]).1)] := hH
  obtain ⟨A7, c8, rfl, hl9, hm10⟩ := hH.row_form 2 rfl
  refine gl_ops 5 [(2, Pp b1 0), (5, .slice A7 ((readD D [115, 110, 97, 112]).1.length) c8), (6, errV ((readD D [115, 110, 97, 112]).2))] (by kernel_rfl) ?_
  refine gl_dn rfl ?_
  refine sw_seq ?_
  refine sw_sr ?_
  refine gl_ops 2 [(2, Pp b1 0), (5, .slice A7 ((readD D [115, 110, 97, 112]).1.length) c8), (6, errV ((readD D [115, 110, 97, 112]).2)), (13, errV ((readD D [115, 110, 97, 112]).2)), (14, .iface 37 (.int .i64 81))] (by kernel_rfl) ?_
  refine gl_st (st_call rfl rfl rfl (by kernel_rfl) rfl (Is_ct ((readD D [115, 110, 97, 112]).2) _) ?_)
  rintro _ w11 ⟨rfl, hF12⟩
  replace hH := hH.call hF12; clear hF12
  refine gl_dn rfl ?_
  refine sw_cond rfl rfl (fun hc1 => ?_) (fun hc1 => ?_)
  ·
    try simp only [beq_iff_eq] at hc1
    refine sw_sr ?_
    refine gl_ops 1 [(2, Pp b1 0), (16, .agg #[.int .i64 0, .int .i64 0, .slice none 0 0, .slice none 0 0])] (by kernel_rfl) ?_
    refine gl_st (st_storeKA (vs := [.int .i64 0, .int .i64 0, .slice none 0 0, .slice none 0 0]) 0 rfl rfl rfl hH rfl rfl (by kernel_rfl) (by kernel_rfl) rfl (by simp) [.int .i64 0, .int .i64 0, .slice none 0 0, .slice none 0 0] rfl ?_)
    clear hH; intro w13 hH
    refine gl_ops 2 [(2, Pp b1 0), (3, .bool false), (4, .nilIface)] (by kernel_rfl) ?_
    refine gl_dn rfl ?_
    refine sw_ret ?_
    refine thR ?_
    refine retC3 rfl (RS.cellA hH 0 (by kernel_rfl) rfl rfl (by kernel_rfl) [.int .i64 0, .int .i64 0, .slice none 0 0, .slice none 0 0] rfl rfl) (RS.tmp rfl) (RS.tmp rfl) ?_
    have hr := load_no (D := D) (by omega)
    replace hH := (hH.nilRow 5 1).nilRow 5 1
    replace hH : Hp w w13 _ _ [.blk b1 24 [.int .i64 0, .int .i64 0, .slice none 0 0, .slice none 0 0], .grp (dskO db mb ab D es), .row (.slice A7 ((readD D [115, 110, 97, 112]).1.length) c8) 5 1 ((readD D [115, 110, 97, 112]).1.length) (bv (readD D [115, 110, 97, 112]).1), .row (.slice none 0 0) 5 1 0 [], .row (.slice none 0 0) 5 1 0 []] := hH
    replace hH := hH.pick [1, 3, 4, 0, 2] (by kernel_rfl) (os' := [.grp (dskO db mb ab D es), .row (.slice none 0 0) 5 1 0 [], .row (.slice none 0 0) 5 1 0 [], .blk b1 24 [.int .i64 0, .int .i64 0, .slice none 0 0, .slice none 0 0], .row (.slice A7 ((readD D [115, 110, 97, 112]).1.length) c8) 5 1 ((readD D [115, 110, 97, 112]).1.length) (bv (readD D [115, 110, 97, 112]).1)]) (by kernel_rfl)
    replace hH := (hH.sublist (.cons_cons _ (.cons_cons _ (.cons_cons _ (List.nil_sublist _)))))
    replace hH : Hp w w13 _ _ [.grp (dskO db mb ab D es), .row (.slice none 0 0) 5 1 0 [], .row (.slice none 0 0) 5 1 0 []] := hH
    exact ⟨_, _, by rw [hr] <;> rfl, by rw [hr]; exact hH.turned⟩
  try simp only [beq_eq_false_iff_ne, ne_eq] at hc1
  refine sw_skip ?_
  refine sw_next ?_
  refine sw_seq ?_
  refine sw_sr ?_
  refine gl_ops 1 [(2, Pp b1 0), (5, .slice A7 ((readD D [115, 110, 97, 112]).1.length) c8), (6, errV ((readD D [115, 110, 97, 112]).2)), (17, errV ((readD D [115, 110, 97, 112]).2))] (by kernel_rfl) ?_
  refine gl_q rfl rfl rfl (rd_err_ne (by kernel_rfl) rfl) ?_
  refine gl_dn rfl ?_
  refine sw_cond rfl rfl (fun hc2 => ?_) (fun hc2 => ?_)
  ·
    try simp only [bne_iff_ne, ne_eq] at hc2
    refine sw_sr ?_
    refine gl_ops 2 [(2, Pp b1 0), (19, .agg #[.int .i64 0, .int .i64 0, .slice none 0 0, .slice none 0 0]), (20, errV ((readD D [115, 110, 97, 112]).2))] (by kernel_rfl) ?_
    refine gl_st (st_storeKA (vs := [.int .i64 0, .int .i64 0, .slice none 0 0, .slice none 0 0]) 0 rfl rfl rfl hH rfl rfl (by kernel_rfl) (by kernel_rfl) rfl (by simp) [.int .i64 0, .int .i64 0, .slice none 0 0, .slice none 0 0] rfl ?_)
    clear hH; intro w14 hH
    refine gl_ops 2 [(2, Pp b1 0), (3, .bool false), (4, errV ((readD D [115, 110, 97, 112]).2))] (by kernel_rfl) ?_
    refine gl_dn rfl ?_
    refine sw_ret ?_
    refine thR ?_
    refine retC3 rfl (RS.cellA hH 0 (by kernel_rfl) rfl rfl (by kernel_rfl) [.int .i64 0, .int .i64 0, .slice none 0 0, .slice none 0 0] rfl rfl) (RS.tmp rfl) (RS.tmp rfl) ?_
    have hr := load_err (D := D) (by omega) (by omega)
    replace hH := (hH.nilRow 5 1).nilRow 5 1
    replace hH : Hp w w14 _ _ [.blk b1 24 [.int .i64 0, .int .i64 0, .slice none 0 0, .slice none 0 0], .grp (dskO db mb ab D es), .row (.slice A7 ((readD D [115, 110, 97, 112]).1.length) c8) 5 1 ((readD D [115, 110, 97, 112]).1.length) (bv (readD D [115, 110, 97, 112]).1), .row (.slice none 0 0) 5 1 0 [], .row (.slice none 0 0) 5 1 0 []] := hH
    replace hH := hH.pick [1, 3, 4, 0, 2] (by kernel_rfl) (os' := [.grp (dskO db mb ab D es), .row (.slice none 0 0) 5 1 0 [], .row (.slice none 0 0) 5 1 0 [], .blk b1 24 [.int .i64 0, .int .i64 0, .slice none 0 0, .slice none 0 0], .row (.slice A7 ((readD D [115, 110, 97, 112]).1.length) c8) 5 1 ((readD D [115, 110, 97, 112]).1.length) (bv (readD D [115, 110, 97, 112]).1)]) (by kernel_rfl)
    replace hH := (hH.sublist (.cons_cons _ (.cons_cons _ (.cons_cons _ (List.nil_sublist _)))))
    replace hH : Hp w w14 _ _ [.grp (dskO db mb ab D es), .row (.slice none 0 0) 5 1 0 [], .row (.slice none 0 0) 5 1 0 []] := hH
    exact ⟨_, _, by rw [hr] <;> rfl, by rw [hr]; exact hH.turned⟩
  try simp only [bne_eq_false_iff_eq] at hc2
  refine sw_skip ?_
  refine sw_next ?_
  refine sw_sr ?_
  refine gl_ops 1 [(2, Pp b1 0), (22, .slice A7 ((readD D [115, 110, 97, 112]).1.length) c8)] (by kernel_rfl) ?_
  refine gl_st (st_call rfl rfl rfl (by kernel_rfl) rfl (Read_ct _ ((readD D [115, 110, 97, 112]).1) _ (rb_own hH 2 rfl) (by first | omega | (simp <;> omega))) ?_)
  rintro _ w19 ⟨v15, v16, rfl, hF20⟩
  replace hH := hH.call hF20; clear hF20
  obtain ⟨A21, c22, rfl, hl23, hm24⟩ := hH.row_form 3 rfl
  obtain ⟨A25, c26, rfl, hl27, hm28⟩ := hH.row_form 4 rfl
  refine gl_ops 3 [(2, Pp b1 0), (24, .agg #[.int .i64 ((readV ((readD D [115, 110, 97, 112]).1)).1.idx), .int .i64 ((readV ((readD D [115, 110, 97, 112]).1)).1.term), .slice A21 (((readV ((readD D [115, 110, 97, 112]).1)).1.conf).length) c22, .slice A25 (((readV ((readD D [115, 110, 97, 112]).1)).1.data).length) c26]), (25, errV ((readV ((readD D [115, 110, 97, 112]).1)).2))] (by kernel_rfl) ?_
  refine gl_st (st_allocH rfl rfl rfl (cs := [.int .i64 0, .int .i64 0, .slice none 0 0, .slice none 0 0]) (by kernel_rfl) hH ?_)
  clear hH; intro b29 w30 hH
  refine gl_st (st_storeKA (vs := [.int .i64 ((readV ((readD D [115, 110, 97, 112]).1)).1.idx), .int .i64 ((readV ((readD D [115, 110, 97, 112]).1)).1.term), .slice A21 (((readV ((readD D [115, 110, 97, 112]).1)).1.conf).length) c22, .slice A25 (((readV ((readD D [115, 110, 97, 112]).1)).1.data).length) c26]) 5 rfl rfl rfl hH rfl rfl (by kernel_rfl) (by kernel_rfl) rfl (by simp) [.int .i64 ((readV ((readD D [115, 110, 97, 112]).1)).1.idx), .int .i64 ((readV ((readD D [115, 110, 97, 112]).1)).1.term), .slice A21 (((readV ((readD D [115, 110, 97, 112]).1)).1.conf).length) c22, .slice A25 (((readV ((readD D [115, 110, 97, 112]).1)).1.data).length) c26] rfl ?_)
  clear hH; intro w31 hH
  refine gl_ops 1 [(2, Pp b1 0), (6, errV ((readV ((readD D [115, 110, 97, 112]).1)).2)), (7, Pp b29 0)] (by kernel_rfl) ?_
  refine gl_dn rfl ?_
  refine sw_seq ?_
  refine sw_draw (by kernel_rfl) (fun w_ => Hp w w_ (off w (blksOf [.grp (dskO db mb ab D es)])) (blksOf [.grp (dskO db mb ab D es)]) [.grp (dskO db mb ab D es), .row (.slice A7 ((readD D [115, 110, 97, 112]).1.length) c8) 5 1 ((readD D [115, 110, 97, 112]).1.length) (bv (readD D [115, 110, 97, 112]).1), .row (.slice A21 (((readV ((readD D [115, 110, 97, 112]).1)).1.conf).length) c22) 5 1 (((readV ((readD D [115, 110, 97, 112]).1)).1.conf).length) (bv ((readV ((readD D [115, 110, 97, 112]).1)).1.conf)), .row (.slice A25 (((readV ((readD D [115, 110, 97, 112]).1)).1.data).length) c26) 5 1 (((readV ((readD D [115, 110, 97, 112]).1)).1.data).length) (bv ((readV ((readD D [115, 110, 97, 112]).1)).1.data)), .blk b29 24 [.int .i64 ((readV ((readD D [115, 110, 97, 112]).1)).1.idx), .int .i64 ((readV ((readD D [115, 110, 97, 112]).1)).1.term), .slice A21 (((readV ((readD D [115, 110, 97, 112]).1)).1.conf).length) c22, .slice A25 (((readV ((readD D [115, 110, 97, 112]).1)).1.data).length) c26]]) ?_
  replace hH := hH.drew
  generalize { w31 with drawn := w31.drawn + 1 } = w32 at hH ⊢
  have hS9 := hH.sublist (.cons _ (.cons_cons _ (.cons_cons _ (.cons_cons _ (.cons_cons _ (.cons_cons _ (List.nil_sublist _)))))))
  refine gd_q 0 rfl (by kernel_rfl) (PQ.th PQ.body) hS9 rfl rfl (fun w_ hS => (rd_loadKA (m := 4) 4 (by kernel_rfl) hS rfl rfl (by kernel_rfl) [.int .i64 ((readV ((readD D [115, 110, 97, 112]).1)).1.idx), .int .i64 ((readV ((readD D [115, 110, 97, 112]).1)).1.term), .slice A21 (((readV ((readD D [115, 110, 97, 112]).1)).1.conf).length) c22, .slice A25 (((readV ((readD D [115, 110, 97, 112]).1)).1.data).length) c26] rfl rfl)) ?_
  refine gd_pure 1 rfl (by kernel_rfl) (PQ.th PQ.body) hS9 rfl rfl (errV ((readV ((readD D [115, 110, 97, 112]).1)).2)) (by kernel_rfl) ?_
  refine gd_q 2 rfl (by kernel_rfl) (PQ.th PQ.body) hS9 rfl rfl (fun w_ hS => (rd_err_eq (by kernel_rfl) rfl)) ?_
  refine gd_keep [(2, Pp b1 0), (6, errV ((readV ((readD D [115, 110, 97, 112]).1)).2)), (26, .agg #[.int .i64 ((readV ((readD D [115, 110, 97, 112]).1)).1.idx), .int .i64 ((readV ((readD D [115, 110, 97, 112]).1)).1.term), .slice A21 (((readV ((readD D [115, 110, 97, 112]).1)).1.conf).length) c22, .slice A25 (((readV ((readD D [115, 110, 97, 112]).1)).1.data).length) c26]), (28, .bool (((readV ((readD D [115, 110, 97, 112]).1)).2) == 0))] (by kernel_rfl) ?_
  refine gd_pure 3 rfl (by kernel_rfl) (PQ.th PQ.body) hS9 rfl rfl (errV ((readV ((readD D [115, 110, 97, 112]).1)).2)) (by kernel_rfl) ?_
  refine gd_st 4 (by kernel_rfl) (st_storeKA (vs := [.int .i64 ((readV ((readD D [115, 110, 97, 112]).1)).1.idx), .int .i64 ((readV ((readD D [115, 110, 97, 112]).1)).1.term), .slice A21 (((readV ((readD D [115, 110, 97, 112]).1)).1.conf).length) c22, .slice A25 (((readV ((readD D [115, 110, 97, 112]).1)).1.data).length) c26]) 0 rfl rfl rfl hH rfl rfl (by kernel_rfl) (by kernel_rfl) rfl (by simp) [.int .i64 ((readV ((readD D [115, 110, 97, 112]).1)).1.idx), .int .i64 ((readV ((readD D [115, 110, 97, 112]).1)).1.term), .slice A21 (((readV ((readD D [115, 110, 97, 112]).1)).1.conf).length) c22, .slice A25 (((readV ((readD D [115, 110, 97, 112]).1)).1.data).length) c26] rfl ?_)
  clear hH; intro w33 hH
  replace hS9 := hH.sublist (.cons _ (.cons_cons _ (.cons_cons _ (.cons_cons _ (.cons_cons _ (.cons_cons _ (List.nil_sublist _)))))))
  refine ⟨hS9, ?_⟩
  refine gd_keep [(2, Pp b1 0), (28, .bool (((readV ((readD D [115, 110, 97, 112]).1)).2) == 0)), (29, errV ((readV ((readD D [115, 110, 97, 112]).1)).2))] (by kernel_rfl) ?_
  refine gd_pure 5 rfl (by kernel_rfl) (PQ.th PQ.body) hS9 rfl rfl (.bool (((readV ((readD D [115, 110, 97, 112]).1)).2) == 0)) (by kernel_rfl) ?_
  refine gd_pure 6 rfl (by kernel_rfl) (PQ.th PQ.body) hS9 rfl rfl (errV ((readV ((readD D [115, 110, 97, 112]).1)).2)) (by kernel_rfl) ?_
  refine gd_done (by kernel_rfl) ?_
  refine at_sub [(2, Pp b1 0), (3, .bool (((readV ((readD D [115, 110, 97, 112]).1)).2) == 0)), (4, errV ((readV ((readD D [115, 110, 97, 112]).1)).2))] (Sub.of_eq (by kernel_rfl)) ?_
  refine sw_next ?_
  refine sw_ret ?_
  refine retC3 rfl (RS.cellA hH 0 (by kernel_rfl) rfl rfl (by kernel_rfl) [.int .i64 ((readV ((readD D [115, 110, 97, 112]).1)).1.idx), .int .i64 ((readV ((readD D [115, 110, 97, 112]).1)).1.term), .slice A21 (((readV ((readD D [115, 110, 97, 112]).1)).1.conf).length) c22, .slice A25 (((readV ((readD D [115, 110, 97, 112]).1)).1.data).length) c26] rfl rfl) (RS.tmp rfl) (RS.tmp rfl) ?_
  have hr := load_ok (D := D) (by omega)
  replace hH := hH.pick [1, 3, 4, 0, 2, 5] (by kernel_rfl) (os' := [.grp (dskO db mb ab D es), .row (.slice A21 (((readV ((readD D [115, 110, 97, 112]).1)).1.conf).length) c22) 5 1 (((readV ((readD D [115, 110, 97, 112]).1)).1.conf).length) (bv ((readV ((readD D [115, 110, 97, 112]).1)).1.conf)), .row (.slice A25 (((readV ((readD D [115, 110, 97, 112]).1)).1.data).length) c26) 5 1 (((readV ((readD D [115, 110, 97, 112]).1)).1.data).length) (bv ((readV ((readD D [115, 110, 97, 112]).1)).1.data)), .blk b1 24 [.int .i64 ((readV ((readD D [115, 110, 97, 112]).1)).1.idx), .int .i64 ((readV ((readD D [115, 110, 97, 112]).1)).1.term), .slice A21 (((readV ((readD D [115, 110, 97, 112]).1)).1.conf).length) c22, .slice A25 (((readV ((readD D [115, 110, 97, 112]).1)).1.data).length) c26], .row (.slice A7 ((readD D [115, 110, 97, 112]).1.length) c8) 5 1 ((readD D [115, 110, 97, 112]).1.length) (bv (readD D [115, 110, 97, 112]).1), .blk b29 24 [.int .i64 ((readV ((readD D [115, 110, 97, 112]).1)).1.idx), .int .i64 ((readV ((readD D [115, 110, 97, 112]).1)).1.term), .slice A21 (((readV ((readD D [115, 110, 97, 112]).1)).1.conf).length) c22, .slice A25 (((readV ((readD D [115, 110, 97, 112]).1)).1.data).length) c26]]) (by kernel_rfl)
  replace hH := (hH.sublist (.cons_cons _ (.cons_cons _ (.cons_cons _ (List.nil_sublist _)))))
  replace hH : Hp w w33 _ _ [.grp (dskO db mb ab D es), .row (.slice A21 (((readV ((readD D [115, 110, 97, 112]).1)).1.conf).length) c22) 5 1 (((readV ((readD D [115, 110, 97, 112]).1)).1.conf).length) (bv ((readV ((readD D [115, 110, 97, 112]).1)).1.conf)), .row (.slice A25 (((readV ((readD D [115, 110, 97, 112]).1)).1.data).length) c26) 5 1 (((readV ((readD D [115, 110, 97, 112]).1)).1.data).length) (bv ((readV ((readD D [115, 110, 97, 112]).1)).1.data))] := hH
  exact ⟨_, _, by rw [hr] <;> rfl, by rw [hr]; exact hH.turned⟩
end Go.Proofs.YtjcchjgkkplamaaGreatDoor
