/- Law 20: the small case comes out right. -/
import Derived.Test.YtjcchjgkkplamaaGreatDoorPut
import Derived.Test.YtjcchjgkkplamaaGreatDoorCalc
set_option maxRecDepth 100000
set_option maxHeartbeats 2000000
set_option linter.unusedVariables false
set_option linter.unusedSimpArgs false
namespace Go.Proofs.YtjcchjgkkplamaaGreatDoor
open Go.RowKit Go.SW
def dat : List UInt8 := List.replicate 1000 0
theorem dat_len : dat.length = 1000 := by unfold dat; rw [List.length_replicate]
theorem small_b : bytesV 3 1 [99] dat = (frameB (snapB 3 1 [99] dat), 0) ∧ (frameB (snapB 3 1 [99] dat)).length = 1015 := by
  have n3 : (numB 3).length = 2 := by decide
  have n1 : (numB 1).length = 2 := by decide
  have nb : (blobB [99]).length = 3 := by decide
  have hl : (snapB 3 1 [99] dat).length = 1007 := by
    unfold snapB
    simp only [List.length_append, dat_len, nb]
    show (numB 3).length + (numB 1).length + 3 + 1000 = 1007
    rw [n3, n1]
  refine ⟨?_, by rw [frameB_length, hl]⟩
  unfold bytesV
  rw [if_neg (by omega), if_neg (by omega), if_neg (by simp), if_neg (by omega)]
theorem small_E : splitE 3 1 [99] dat = 0 := (split_ok (by rw [small_b.1]) (by rw [small_b.1]; have := small_b.2; simp only; unfold nch; omega)).1
theorem small_B : splitB 3 1 [99] dat = frameB (snapB 3 1 [99] dat) := by
  rw [(split_ok (by rw [small_b.1]) (by rw [small_b.1]; have := small_b.2; simp only; unfold nch; omega)).2, small_b.1]
theorem small_W : Whole 3 1 [99] dat (splitB 3 1 [99] dat) := whole_of_split (by omega) (by omega) small_E
theorem small_n : nch (splitB 3 1 [99] dat).length = 2 := by rw [small_B, small_b.2]; rfl
theorem small_c0 : (chunkB (splitB 3 1 [99] dat) 0).length = 512 := by rw [chunkB_length, small_B, small_b.2]; rfl
theorem small_p1 {dt : List UInt8} (hW : Whole 3 1 [99] dt (splitB 3 1 [99] dt)) (hN : nch (splitB 3 1 [99] dt).length = 2) (v : Value) : putI ⟨none, 0, []⟩ (partP 3 1 (splitB 3 1 [99] dt) 1) v = (⟨some (1, 3), 2, [(1, v, chunkB (splitB 3 1 [99] dt) 1)]⟩, ⟨0, 0, [], []⟩, false, 0) := by
  rw [put_first hW 1 (by rw [hN]; omega) v, if_neg (by rw [hN]; omega), hN]; rfl
theorem small_p2 {dt : List UInt8} (hW : Whole 3 1 [99] dt (splitB 3 1 [99] dt)) (hN : nch (splitB 3 1 [99] dt).length = 2) (u v : Value) : putI ⟨some (1, 3), 2, [(1, u, chunkB (splitB 3 1 [99] dt) 1)]⟩ (partP 3 1 (splitB 3 1 [99] dt) 0) v = (⟨some (1, 3), 0, []⟩, ⟨3, 1, [99], dt⟩, true, 0) := by
  have hm := hW.mayP 0 (by rw [hN]; omega)
  have hn := hN
  have hb : baseI ⟨some (1, 3), 2, [(1, u, chunkB (splitB 3 1 [99] dt) 1)]⟩ (partP 3 1 (splitB 3 1 [99] dt) 0) = some [(1, u, chunkB (splitB 3 1 [99] dt) 1)] := by
    unfold baseI partP
    simp only
    rw [if_neg (by simp [olderW]), if_pos (by simp [hn])]
  have hw : withP [(1, u, chunkB (splitB 3 1 [99] dt) 1)] (partP 3 1 (splitB 3 1 [99] dt) 0) v = [(1, u, chunkB (splitB 3 1 [99] dt) 1), (0, v, chunkB (splitB 3 1 [99] dt) 0)] := withP_new v rfl
  rw [putI_end v hm hb (by rw [hw]; simp [partP, hn]), hw]
  have hj : joinI [(1, u, chunkB (splitB 3 1 [99] dt) 1), (0, v, chunkB (splitB 3 1 [99] dt) 0)] (partP 3 1 (splitB 3 1 [99] dt) 0).many.toNat = splitB 3 1 [99] dt := by
    have := joinI_all (rs := [(1, u, chunkB (splitB 3 1 [99] dt) 1), (0, v, chunkB (splitB 3 1 [99] dt) 0)]) (b := splitB 3 1 [99] dt) (fun k hk => by
      rw [hn] at hk
      match k, hk with
      | 0, _ => simp [rowOf]
      | 1, _ => simp [rowOf])
    simpa [partP] using this
  rw [hj, hW.done 0]
  rfl
theorem small_p3 {dt : List UInt8} (hW : Whole 3 1 [99] dt (splitB 3 1 [99] dt)) (hN : nch (splitB 3 1 [99] dt).length = 2) (v : Value) : putI ⟨some (1, 3), 0, []⟩ (partP 3 1 (splitB 3 1 [99] dt) 0) v = (⟨some (1, 3), 0, []⟩, ⟨0, 0, [], []⟩, false, 91) := by
  rw [putI_ref v (hW.mayP 0 (by rw [hN]; omega)) (by
    unfold baseI partP
    simp only
    rw [if_neg (by simp [olderW]), if_neg]
    rintro ⟨_, h⟩
    rw [hN] at h
    exact absurd h (by decide))]
  rfl
theorem small_pack : ∃ dt : List UInt8, dt.length = 1000 ∧ List.replicate 1000 (Value.int .u8 0) = bv dt ∧ splitE 3 1 [99] dt = 0 ∧ Whole 3 1 [99] dt (splitB 3 1 [99] dt) ∧ nch (splitB 3 1 [99] dt).length = 2 ∧ (chunkB (splitB 3 1 [99] dt) 0).length = 512 :=
  ⟨dat, dat_len, bv_zeros _, small_E, small_W, small_n, small_c0⟩

theorem Small_ct (w : World) (hG : w.cell? ⟨0, 0, none⟩ = some errTy) :
    Fun Tryz.prog 5 [] w fun v w' => v = .bool true ∧ Fresh w w' [] := by
  obtain ⟨dt, hdl, hdz, hE, hW, hN, hc0⟩ := small_pack
  refine fun_of_sw Tryz.func5 rfl 115 rfl rfl ?_
  have hH := Hp.start w
  refine sw_sr ?_
  refine gl_ops 1 [] (by kernel_rfl) ?_
  refine gl_dn rfl ?_
  refine sw_sr ?_
  refine gl_st (st_buildS (e := 5) (zv := .int .u8 0) (m := 1) (bytes := 1) rfl rfl rfl (by kernel_rfl) (by kernel_rfl) rfl (cs := [.int .u8 99]) (by kernel_rfl) rfl hH ?_)
  clear hH; intro b1 w2 hH
  replace hH := hH.row_eq 0 (l' := 1) (xs' := bv [99]) rfl (rfl) (rfl)
  refine gl_st (st_convB (e := 5) 0 rfl rfl rfl (by kernel_rfl) (by kernel_rfl) hH rfl rfl ?_)
  clear hH; intro w3 hH
  refine gl_st (st_makeH (e := 5) (zv := .int .u8 0) (bytes := 1) rfl rfl rfl (by kernel_rfl) (by kernel_rfl) rfl 1000 rfl rfl (by omega) (by unfold maxLen; omega) hH ?_)
  clear hH; intro v4 w5 hH
  obtain ⟨A8, c9, rfl, hl10, hm11⟩ := hH.row_form 1 rfl
  replace hH := hH.row_eq 1 (l' := dt.length) (xs' := bv dt) rfl (hdl.symm) (hdz)
  refine gl_ops 1 [(20, .agg #[.int .i64 3, .int .i64 1, .slice (some ⟨b1, 0, none⟩) 1 1, .slice A8 1000 c9])] (by kernel_rfl) ?_
  refine gl_st (st_allocH rfl rfl rfl (cs := [.int .i64 0, .int .i64 0, .slice none 0 0, .slice none 0 0]) (by kernel_rfl) hH ?_)
  clear hH; intro b12 w13 hH
  refine gl_st (st_storeKA (vs := [.int .i64 3, .int .i64 1, .slice (some ⟨b1, 0, none⟩) 1 1, .slice A8 1000 c9]) 2 rfl rfl rfl hH rfl rfl (by kernel_rfl) (by kernel_rfl) rfl (by simp) [.int .i64 3, .int .i64 1, .slice (some ⟨b1, 0, none⟩) 1 1, .slice A8 1000 c9] rfl ?_)
  clear hH; intro w14 hH
  refine gl_dn rfl ?_
  refine sw_sr ?_
  refine gl_q rfl rfl rfl (rd_loadKA (m := 4) 2 (by kernel_rfl) hH rfl rfl (by kernel_rfl) [.int .i64 3, .int .i64 1, .slice (some ⟨b1, 0, none⟩) 1 1, .slice A8 1000 c9] rfl rfl) ?_
  refine gl_st (st_call rfl rfl rfl (by kernel_rfl) rfl (Split_ct (3 : Int) (1 : Int) _ _ [99] dt _ (mkd_row hH 0 rfl rfl (Nat.le_refl 1) (by simp [maxLen])) (rb_own hH 1 rfl) (by omega) (by omega) (by rw [hdl]; omega)) ?_)
  rintro _ w20 ⟨v15, vs16, rfl, hl17, hF21⟩
  replace hH := hH.call hF21; clear hF21
  replace hH := hH.row_eq 3 (l' := nch (splitB (3 : Int) (1 : Int) [99] dt).length) (xs' := partsC (3 : Int) (1 : Int) (nch (splitB (3 : Int) (1 : Int) [99] dt).length) vs16) rfl hl17 (by rw [hl17])
  obtain ⟨A22, c23, rfl, hl24, hm25⟩ := hH.row_form 3 rfl
  refine gl_ops 3 [(24, .slice A22 (nch (splitB (3 : Int) (1 : Int) [99] dt).length) c23), (25, errV (splitE (3 : Int) (1 : Int) [99] dt))] (by kernel_rfl) ?_
  refine gl_cv 25 (.nilIface) (by rw [hE]; rfl) rfl ?_
  refine gl_ops 2 [(2, .slice A22 (nch (splitB (3 : Int) (1 : Int) [99] dt).length) c23), (3, .nilIface)] (by kernel_rfl) ?_
  refine gl_dn rfl ?_
  refine sw_sr ?_
  refine gl_st (st_call rfl rfl rfl (by kernel_rfl) rfl (NewInbox_ct _) ?_)
  rintro _ w29 ⟨xb26, mb27, rfl, hF30⟩
  replace hH := hH.call hF30; clear hF30
  refine gl_ops 1 [(2, .slice A22 (nch (splitB (3 : Int) (1 : Int) [99] dt).length) c23), (3, .nilIface), (4, Pp xb26 0)] (by kernel_rfl) ?_
  refine gl_dn rfl ?_
  refine sw_seq ?_
  refine sw_sr ?_
  refine gl_ops 8 [(2, .slice A22 (nch (splitB (3 : Int) (1 : Int) [99] dt).length) c23), (4, Pp xb26 0), (33, .bool false), (34, .slice A22 (nch (splitB (3 : Int) (1 : Int) [99] dt).length) c23)] (by kernel_rfl) ?_
  refine gl_q rfl rfl rfl (rd_len (e := 63) (by kernel_rfl) rfl) ?_
  refine gl_ops 1 [(2, .slice A22 (nch (splitB (3 : Int) (1 : Int) [99] dt).length) c23), (4, Pp xb26 0), (33, .bool false), (36, .bool (((nch (splitB (3 : Int) (1 : Int) [99] dt).length : Nat) : Int) != (2 : Int)))] (by kernel_rfl) ?_
  refine gl_cv 36 (.bool false) (by rw [hN]; rfl) rfl ?_
  obtain ⟨b32, hb31, hi33⟩ := hH.row_idx 3 rfl 0 (by rw [hN]; omega)
  refine gl_ops 3 [(2, .slice A22 (nch (splitB (3 : Int) (1 : Int) [99] dt).length) c23), (4, Pp xb26 0), (38, .bool false), (39, .slice A22 (nch (splitB (3 : Int) (1 : Int) [99] dt).length) c23)] (by kernel_rfl) ?_
  refine gl_q rfl rfl rfl (rd_idx (e := 63) (m := 5) (by kernel_rfl) (by kernel_rfl) rfl rfl hi33) ?_
  refine gl_ops 1 [(2, .slice A22 (nch (splitB (3 : Int) (1 : Int) [99] dt).length) c23), (4, Pp xb26 0), (38, .bool false), (41, Pp b32 (0 * 5 + 4))] (by kernel_rfl) ?_
  refine gl_q rfl rfl rfl (rd_loadO 3 (by kernel_rfl) hH rfl rfl hb31 (partsC_get (3 : Int) (1 : Int) (nch (splitB (3 : Int) (1 : Int) [99] dt).length) vs16 0 4 (by rw [hl17]; rw [hN]; omega) (by decide))) ?_
  obtain ⟨A34, c35, hv36, -, -⟩ := (part_rb hH 4 rfl 0 (by rw [hl17]; rw [hN]; omega)).row.form
  refine gl_cv 42 (.slice A34 ((chunkB (splitB (3 : Int) (1 : Int) [99] dt) 0).length) c35) (hv36) rfl ?_
  refine gl_q rfl rfl rfl (rd_len (e := 5) (by kernel_rfl) rfl) ?_
  refine gl_ops 1 [(2, .slice A22 (nch (splitB (3 : Int) (1 : Int) [99] dt).length) c23), (4, Pp xb26 0), (38, .bool false), (44, .bool ((((chunkB (splitB (3 : Int) (1 : Int) [99] dt) 0).length : Nat) : Int) != (512 : Int)))] (by kernel_rfl) ?_
  refine gl_cv 44 (.bool false) (by rw [hc0]; rfl) rfl ?_
  refine gl_ops 1 [(2, .slice A22 (nch (splitB (3 : Int) (1 : Int) [99] dt).length) c23), (4, Pp xb26 0), (45, .bool false)] (by kernel_rfl) ?_
  refine gl_dn rfl ?_
  refine sw_false rfl rfl ?_
  refine sw_skip ?_
  refine sw_next ?_
  refine sw_sr ?_
  obtain ⟨b38, hb37, hi39⟩ := hH.row_idx 3 rfl 1 (by rw [hN]; omega)
  refine gl_ops 2 [(2, .slice A22 (nch (splitB (3 : Int) (1 : Int) [99] dt).length) c23), (4, Pp xb26 0), (47, Pp xb26 0), (48, .slice A22 (nch (splitB (3 : Int) (1 : Int) [99] dt).length) c23)] (by kernel_rfl) ?_
  refine gl_q rfl rfl rfl (rd_idx (e := 63) (m := 5) (by kernel_rfl) (by kernel_rfl) rfl rfl hi39) ?_
  refine gl_q rfl rfl rfl (rd_loadOA (q := 5) 3 (by kernel_rfl) hH rfl rfl hb37 (by kernel_rfl) [.int .i64 3, .int .i64 1, .int .i64 1, Ni (nch (splitB (3 : Int) (1 : Int) [99] dt).length), (vs16.getD 1 undef)] rfl (partsC_all (3 : Int) (1 : Int) (nch (splitB (3 : Int) (1 : Int) [99] dt).length) vs16 1 (by rw [hl17]; rw [hN]; omega))) ?_
  replace hH := hH.pick [5, 0, 1, 2, 3, 4] (by kernel_rfl) (os' := [.grp (ibxO xb26 0 mb27 ⟨none, 0, []⟩ [])] ++ [.mkd b1 5 (bv [99]), .row (.slice A8 1000 c9) 5 1 dt.length (bv dt), .blk b12 24 [.int .i64 3, .int .i64 1, .slice (some ⟨b1, 0, none⟩) 1 1, .slice A8 1000 c9], .row (.slice A22 (nch (splitB (3 : Int) (1 : Int) [99] dt).length) c23) 63 5 (nch (splitB (3 : Int) (1 : Int) [99] dt).length) (partsC (3 : Int) (1 : Int) (nch (splitB (3 : Int) (1 : Int) [99] dt).length) vs16), .grp (partOwn 5 (splitB (3 : Int) (1 : Int) [99] dt) vs16)]) (by kernel_rfl)
  refine gl_st (st_call rfl rfl rfl (by kernel_rfl) rfl (Put_ct _ _ _ ⟨none, 0, []⟩ _ (partP (3 : Int) (1 : Int) (splitB (3 : Int) (1 : Int) [99] dt) 1) _ _ hH.mine (part_off hH 4 rfl 1 (by rw [hl17]; rw [hN]; omega)) (hW.i64 1 (by rw [hN]; omega)) fit_new) ?_)
  rintro _ w50 ⟨nv40, nb41, l42, v43, v44, R45, rfl, hR46, hf47, hF51⟩
  replace hH := hH.turns hF51; clear hF51
  replace hH : Hp w w50 _ _ [.mkd b1 5 (bv [99]), .row (.slice A8 1000 c9) 5 1 dt.length (bv dt), .blk b12 24 [.int .i64 3, .int .i64 1, .slice (some ⟨b1, 0, none⟩) 1 1, .slice A8 1000 c9], .row (.slice A22 (nch (splitB (3 : Int) (1 : Int) [99] dt).length) c23) 63 5 (nch (splitB (3 : Int) (1 : Int) [99] dt).length) (partsC (3 : Int) (1 : Int) (nch (splitB (3 : Int) (1 : Int) [99] dt).length) vs16), .grp (partOwn 5 (splitB (3 : Int) (1 : Int) [99] dt) vs16), .grp (ibxO xb26 nb41 mb27 R45.1 l42), .row v43 5 1 R45.2.1.conf.length (bv R45.2.1.conf), .row v44 5 1 R45.2.1.data.length (bv R45.2.1.data)] := hH
  obtain rfl : R45 = (⟨some (1, 3), 2, [(1, nv40, chunkB (splitB (3 : Int) (1 : Int) [99] dt) 1)]⟩, ⟨0, 0, ([] : List UInt8), ([] : List UInt8)⟩, false, 0) := by rw [hR46]; exact small_p1 hW hN _
  replace hH : Hp w w50 _ _ [.mkd b1 5 (bv [99]), .row (.slice A8 1000 c9) 5 1 dt.length (bv dt), .blk b12 24 [.int .i64 3, .int .i64 1, .slice (some ⟨b1, 0, none⟩) 1 1, .slice A8 1000 c9], .row (.slice A22 (nch (splitB (3 : Int) (1 : Int) [99] dt).length) c23) 63 5 (nch (splitB (3 : Int) (1 : Int) [99] dt).length) (partsC (3 : Int) (1 : Int) (nch (splitB (3 : Int) (1 : Int) [99] dt).length) vs16), .grp (partOwn 5 (splitB (3 : Int) (1 : Int) [99] dt) vs16), .grp (ibxO xb26 nb41 mb27 ⟨some (1, 3), 2, [(1, nv40, chunkB (splitB (3 : Int) (1 : Int) [99] dt) 1)]⟩ l42), .row v43 5 1 (([] : List UInt8).length) (bv ([] : List UInt8)), .row v44 5 1 (([] : List UInt8).length) (bv ([] : List UInt8))] := hH
  obtain ⟨A52, c53, rfl, hl54, hm55⟩ := hH.row_form 6 rfl
  obtain ⟨A56, c57, rfl, hl58, hm59⟩ := hH.row_form 7 rfl
  replace hH : Hp w w50 _ _ [.mkd b1 5 (bv [99]), .row (.slice A8 1000 c9) 5 1 dt.length (bv dt), .blk b12 24 [.int .i64 3, .int .i64 1, .slice (some ⟨b1, 0, none⟩) 1 1, .slice A8 1000 c9], .row (.slice A22 (nch (splitB (3 : Int) (1 : Int) [99] dt).length) c23) 63 5 (nch (splitB (3 : Int) (1 : Int) [99] dt).length) (partsC (3 : Int) (1 : Int) (nch (splitB (3 : Int) (1 : Int) [99] dt).length) vs16), .grp (partOwn 5 (splitB (3 : Int) (1 : Int) [99] dt) vs16), .grp (ibxO xb26 nb41 mb27 ⟨some (1, 3), 2, [(1, nv40, chunkB (splitB (3 : Int) (1 : Int) [99] dt) 1)]⟩ l42), .row (.slice A52 (([] : List UInt8).length) c53) 5 1 (([] : List UInt8).length) (bv ([] : List UInt8)), .row (.slice A56 (([] : List UInt8).length) c57) 5 1 (([] : List UInt8).length) (bv ([] : List UInt8))] := hH
  refine gl_ops 4 [(2, .slice A22 (nch (splitB (3 : Int) (1 : Int) [99] dt).length) c23), (4, Pp xb26 0), (52, .agg #[.int .i64 0, .int .i64 0, .slice A52 (([] : List UInt8).length) c53, .slice A56 (([] : List UInt8).length) c57]), (53, .bool false), (54, .nilIface)] (by kernel_rfl) ?_
  refine gl_st (st_allocH rfl rfl rfl (cs := [.int .i64 0, .int .i64 0, .slice none 0 0, .slice none 0 0]) (by kernel_rfl) hH ?_)
  clear hH; intro b60 w61 hH
  replace hH : Hp w w61 _ _ [.mkd b1 5 (bv [99]), .row (.slice A8 1000 c9) 5 1 dt.length (bv dt), .blk b12 24 [.int .i64 3, .int .i64 1, .slice (some ⟨b1, 0, none⟩) 1 1, .slice A8 1000 c9], .row (.slice A22 (nch (splitB (3 : Int) (1 : Int) [99] dt).length) c23) 63 5 (nch (splitB (3 : Int) (1 : Int) [99] dt).length) (partsC (3 : Int) (1 : Int) (nch (splitB (3 : Int) (1 : Int) [99] dt).length) vs16), .grp (partOwn 5 (splitB (3 : Int) (1 : Int) [99] dt) vs16), .grp (ibxO xb26 nb41 mb27 ⟨some (1, 3), 2, [(1, nv40, chunkB (splitB (3 : Int) (1 : Int) [99] dt) 1)]⟩ l42), .row (.slice A52 (([] : List UInt8).length) c53) 5 1 (([] : List UInt8).length) (bv ([] : List UInt8)), .row (.slice A56 (([] : List UInt8).length) c57) 5 1 (([] : List UInt8).length) (bv ([] : List UInt8)), .blk b60 24 [.int .i64 0, .int .i64 0, .slice none 0 0, .slice none 0 0]] := hH
  refine gl_st (st_storeKA (vs := [.int .i64 0, .int .i64 0, .slice A52 (([] : List UInt8).length) c53, .slice A56 (([] : List UInt8).length) c57]) 8 rfl rfl rfl hH rfl rfl (by kernel_rfl) (by kernel_rfl) rfl (by simp) [.int .i64 0, .int .i64 0, .slice A52 (([] : List UInt8).length) c53, .slice A56 (([] : List UInt8).length) c57] rfl ?_)
  clear hH; intro w62 hH
  replace hH : Hp w w62 _ _ [.mkd b1 5 (bv [99]), .row (.slice A8 1000 c9) 5 1 dt.length (bv dt), .blk b12 24 [.int .i64 3, .int .i64 1, .slice (some ⟨b1, 0, none⟩) 1 1, .slice A8 1000 c9], .row (.slice A22 (nch (splitB (3 : Int) (1 : Int) [99] dt).length) c23) 63 5 (nch (splitB (3 : Int) (1 : Int) [99] dt).length) (partsC (3 : Int) (1 : Int) (nch (splitB (3 : Int) (1 : Int) [99] dt).length) vs16), .grp (partOwn 5 (splitB (3 : Int) (1 : Int) [99] dt) vs16), .grp (ibxO xb26 nb41 mb27 ⟨some (1, 3), 2, [(1, nv40, chunkB (splitB (3 : Int) (1 : Int) [99] dt) 1)]⟩ l42), .row (.slice A52 (([] : List UInt8).length) c53) 5 1 (([] : List UInt8).length) (bv ([] : List UInt8)), .row (.slice A56 (([] : List UInt8).length) c57) 5 1 (([] : List UInt8).length) (bv ([] : List UInt8)), .blk b60 24 [.int .i64 0, .int .i64 0, .slice A52 (([] : List UInt8).length) c53, .slice A56 (([] : List UInt8).length) c57]] := hH
  refine gl_ops 2 [(2, .slice A22 (nch (splitB (3 : Int) (1 : Int) [99] dt).length) c23), (4, Pp xb26 0), (6, .bool false), (7, .nilIface)] (by kernel_rfl) ?_
  refine gl_dn rfl ?_
  refine sw_sr ?_
  refine gl_ops 1 [(2, .slice A22 (nch (splitB (3 : Int) (1 : Int) [99] dt).length) c23), (4, Pp xb26 0), (6, .bool false), (7, .nilIface), (56, Pp xb26 0)] (by kernel_rfl) ?_
  replace hH := hH.pick [5, 0, 1, 2, 3, 4, 6, 7, 8] (by kernel_rfl) (os' := [.grp (ibxO xb26 nb41 mb27 ⟨some (1, 3), 2, [(1, nv40, chunkB (splitB (3 : Int) (1 : Int) [99] dt) 1)]⟩ l42)] ++ [.mkd b1 5 (bv [99]), .row (.slice A8 1000 c9) 5 1 dt.length (bv dt), .blk b12 24 [.int .i64 3, .int .i64 1, .slice (some ⟨b1, 0, none⟩) 1 1, .slice A8 1000 c9], .row (.slice A22 (nch (splitB (3 : Int) (1 : Int) [99] dt).length) c23) 63 5 (nch (splitB (3 : Int) (1 : Int) [99] dt).length) (partsC (3 : Int) (1 : Int) (nch (splitB (3 : Int) (1 : Int) [99] dt).length) vs16), .grp (partOwn 5 (splitB (3 : Int) (1 : Int) [99] dt) vs16), .row (.slice A52 (([] : List UInt8).length) c53) 5 1 (([] : List UInt8).length) (bv ([] : List UInt8)), .row (.slice A56 (([] : List UInt8).length) c57) 5 1 (([] : List UInt8).length) (bv ([] : List UInt8)), .blk b60 24 [.int .i64 0, .int .i64 0, .slice A52 (([] : List UInt8).length) c53, .slice A56 (([] : List UInt8).length) c57]]) (by kernel_rfl)
  refine gl_st (st_call rfl rfl rfl (by kernel_rfl) rfl (Want_ct _ _ _ ⟨some (1, 3), 2, [(1, nv40, chunkB (splitB (3 : Int) (1 : Int) [99] dt) 1)]⟩ _ _ hH.mine hf47) ?_)
  rintro _ w63 ⟨rfl, hF64⟩
  replace hH := hH.turns hF64; clear hF64
  replace hH : Hp w w63 _ _ [.mkd b1 5 (bv [99]), .row (.slice A8 1000 c9) 5 1 dt.length (bv dt), .blk b12 24 [.int .i64 3, .int .i64 1, .slice (some ⟨b1, 0, none⟩) 1 1, .slice A8 1000 c9], .row (.slice A22 (nch (splitB (3 : Int) (1 : Int) [99] dt).length) c23) 63 5 (nch (splitB (3 : Int) (1 : Int) [99] dt).length) (partsC (3 : Int) (1 : Int) (nch (splitB (3 : Int) (1 : Int) [99] dt).length) vs16), .grp (partOwn 5 (splitB (3 : Int) (1 : Int) [99] dt) vs16), .row (.slice A52 (([] : List UInt8).length) c53) 5 1 (([] : List UInt8).length) (bv ([] : List UInt8)), .row (.slice A56 (([] : List UInt8).length) c57) 5 1 (([] : List UInt8).length) (bv ([] : List UInt8)), .blk b60 24 [.int .i64 0, .int .i64 0, .slice A52 (([] : List UInt8).length) c53, .slice A56 (([] : List UInt8).length) c57], .grp (ibxO xb26 nb41 mb27 ⟨some (1, 3), 2, [(1, nv40, chunkB (splitB (3 : Int) (1 : Int) [99] dt) 1)]⟩ l42)] := hH
  replace hH : Hp w w63 _ _ [.mkd b1 5 (bv [99]), .row (.slice A8 1000 c9) 5 1 dt.length (bv dt), .blk b12 24 [.int .i64 3, .int .i64 1, .slice (some ⟨b1, 0, none⟩) 1 1, .slice A8 1000 c9], .row (.slice A22 (nch (splitB (3 : Int) (1 : Int) [99] dt).length) c23) 63 5 (nch (splitB (3 : Int) (1 : Int) [99] dt).length) (partsC (3 : Int) (1 : Int) (nch (splitB (3 : Int) (1 : Int) [99] dt).length) vs16), .grp (partOwn 5 (splitB (3 : Int) (1 : Int) [99] dt) vs16), .row (.slice A52 (([] : List UInt8).length) c53) 5 1 (([] : List UInt8).length) (bv ([] : List UInt8)), .row (.slice A56 (([] : List UInt8).length) c57) 5 1 (([] : List UInt8).length) (bv ([] : List UInt8)), .blk b60 24 [.int .i64 0, .int .i64 0, .slice A52 (([] : List UInt8).length) c53, .slice A56 (([] : List UInt8).length) c57], .grp (ibxO xb26 nb41 mb27 ⟨some (1, 3), 2, [(1, nv40, chunkB (splitB (3 : Int) (1 : Int) [99] dt) 1)]⟩ l42)] := hH
  refine gl_ops 2 [(2, .slice A22 (nch (splitB (3 : Int) (1 : Int) [99] dt).length) c23), (4, Pp xb26 0), (6, .bool false), (7, .nilIface), (55, .tuple #[.int .i64 ((wantI ⟨some (1, 3), 2, [(1, nv40, chunkB (splitB (3 : Int) (1 : Int) [99] dt) 1)]⟩).1), .int .i64 ((wantI ⟨some (1, 3), 2, [(1, nv40, chunkB (splitB (3 : Int) (1 : Int) [99] dt) 1)]⟩).2.1), .int .i64 ((wantI ⟨some (1, 3), 2, [(1, nv40, chunkB (splitB (3 : Int) (1 : Int) [99] dt) 1)]⟩).2.2)]), (58, .int .i64 ((wantI ⟨some (1, 3), 2, [(1, nv40, chunkB (splitB (3 : Int) (1 : Int) [99] dt) 1)]⟩).1))] (by kernel_rfl) ?_
  refine gl_cv 58 (.int .i64 3) (by rfl) rfl ?_
  refine gl_ops 1 [(2, .slice A22 (nch (splitB (3 : Int) (1 : Int) [99] dt).length) c23), (4, Pp xb26 0), (6, .bool false), (7, .nilIface), (55, .tuple #[.int .i64 ((wantI ⟨some (1, 3), 2, [(1, nv40, chunkB (splitB (3 : Int) (1 : Int) [99] dt) 1)]⟩).1), .int .i64 ((wantI ⟨some (1, 3), 2, [(1, nv40, chunkB (splitB (3 : Int) (1 : Int) [99] dt) 1)]⟩).2.1), .int .i64 ((wantI ⟨some (1, 3), 2, [(1, nv40, chunkB (splitB (3 : Int) (1 : Int) [99] dt) 1)]⟩).2.2)]), (58, .int .i64 3), (59, .int .i64 ((wantI ⟨some (1, 3), 2, [(1, nv40, chunkB (splitB (3 : Int) (1 : Int) [99] dt) 1)]⟩).2.1))] (by kernel_rfl) ?_
  refine gl_cv 59 (.int .i64 1) (by rfl) rfl ?_
  refine gl_ops 1 [(2, .slice A22 (nch (splitB (3 : Int) (1 : Int) [99] dt).length) c23), (4, Pp xb26 0), (6, .bool false), (7, .nilIface), (58, .int .i64 3), (59, .int .i64 1), (60, .int .i64 ((wantI ⟨some (1, 3), 2, [(1, nv40, chunkB (splitB (3 : Int) (1 : Int) [99] dt) 1)]⟩).2.2))] (by kernel_rfl) ?_
  refine gl_cv 60 (.int .i64 0) (by rfl) rfl ?_
  refine gl_ops 3 [(2, .slice A22 (nch (splitB (3 : Int) (1 : Int) [99] dt).length) c23), (4, Pp xb26 0), (6, .bool false), (7, .nilIface), (8, .int .i64 3), (9, .int .i64 1), (10, .int .i64 0)] (by kernel_rfl) ?_
  refine gl_dn rfl ?_
  refine sw_sr ?_
  obtain ⟨b66, hb65, hi67⟩ := hH.row_idx 3 rfl 0 (by rw [hN]; omega)
  refine gl_ops 2 [(2, .slice A22 (nch (splitB (3 : Int) (1 : Int) [99] dt).length) c23), (4, Pp xb26 0), (6, .bool false), (7, .nilIface), (8, .int .i64 3), (9, .int .i64 1), (10, .int .i64 0), (62, Pp xb26 0), (63, .slice A22 (nch (splitB (3 : Int) (1 : Int) [99] dt).length) c23)] (by kernel_rfl) ?_
  refine gl_q rfl rfl rfl (rd_idx (e := 63) (m := 5) (by kernel_rfl) (by kernel_rfl) rfl rfl hi67) ?_
  refine gl_q rfl rfl rfl (rd_loadOA (q := 5) 3 (by kernel_rfl) hH rfl rfl hb65 (by kernel_rfl) [.int .i64 3, .int .i64 1, .int .i64 0, Ni (nch (splitB (3 : Int) (1 : Int) [99] dt).length), (vs16.getD 0 undef)] rfl (partsC_all (3 : Int) (1 : Int) (nch (splitB (3 : Int) (1 : Int) [99] dt).length) vs16 0 (by rw [hl17]; rw [hN]; omega))) ?_
  replace hH := hH.pick [8, 0, 1, 2, 3, 4, 5, 6, 7] (by kernel_rfl) (os' := [.grp (ibxO xb26 nb41 mb27 ⟨some (1, 3), 2, [(1, nv40, chunkB (splitB (3 : Int) (1 : Int) [99] dt) 1)]⟩ l42)] ++ [.mkd b1 5 (bv [99]), .row (.slice A8 1000 c9) 5 1 dt.length (bv dt), .blk b12 24 [.int .i64 3, .int .i64 1, .slice (some ⟨b1, 0, none⟩) 1 1, .slice A8 1000 c9], .row (.slice A22 (nch (splitB (3 : Int) (1 : Int) [99] dt).length) c23) 63 5 (nch (splitB (3 : Int) (1 : Int) [99] dt).length) (partsC (3 : Int) (1 : Int) (nch (splitB (3 : Int) (1 : Int) [99] dt).length) vs16), .grp (partOwn 5 (splitB (3 : Int) (1 : Int) [99] dt) vs16), .row (.slice A52 (([] : List UInt8).length) c53) 5 1 (([] : List UInt8).length) (bv ([] : List UInt8)), .row (.slice A56 (([] : List UInt8).length) c57) 5 1 (([] : List UInt8).length) (bv ([] : List UInt8)), .blk b60 24 [.int .i64 0, .int .i64 0, .slice A52 (([] : List UInt8).length) c53, .slice A56 (([] : List UInt8).length) c57]]) (by kernel_rfl)
  refine gl_st (st_call rfl rfl rfl (by kernel_rfl) rfl (Put_ct _ _ _ ⟨some (1, 3), 2, [(1, nv40, chunkB (splitB (3 : Int) (1 : Int) [99] dt) 1)]⟩ _ (partP (3 : Int) (1 : Int) (splitB (3 : Int) (1 : Int) [99] dt) 0) _ _ hH.mine (part_off hH 4 rfl 0 (by rw [hl17]; rw [hN]; omega)) (hW.i64 0 (by rw [hN]; omega)) hf47) ?_)
  rintro _ w78 ⟨nv68, nb69, l70, v71, v72, R73, rfl, hR74, hf75, hF79⟩
  replace hH := hH.turns hF79; clear hF79
  replace hH : Hp w w78 _ _ [.mkd b1 5 (bv [99]), .row (.slice A8 1000 c9) 5 1 dt.length (bv dt), .blk b12 24 [.int .i64 3, .int .i64 1, .slice (some ⟨b1, 0, none⟩) 1 1, .slice A8 1000 c9], .row (.slice A22 (nch (splitB (3 : Int) (1 : Int) [99] dt).length) c23) 63 5 (nch (splitB (3 : Int) (1 : Int) [99] dt).length) (partsC (3 : Int) (1 : Int) (nch (splitB (3 : Int) (1 : Int) [99] dt).length) vs16), .grp (partOwn 5 (splitB (3 : Int) (1 : Int) [99] dt) vs16), .row (.slice A52 (([] : List UInt8).length) c53) 5 1 (([] : List UInt8).length) (bv ([] : List UInt8)), .row (.slice A56 (([] : List UInt8).length) c57) 5 1 (([] : List UInt8).length) (bv ([] : List UInt8)), .blk b60 24 [.int .i64 0, .int .i64 0, .slice A52 (([] : List UInt8).length) c53, .slice A56 (([] : List UInt8).length) c57], .grp (ibxO xb26 nb69 mb27 R73.1 l70), .row v71 5 1 R73.2.1.conf.length (bv R73.2.1.conf), .row v72 5 1 R73.2.1.data.length (bv R73.2.1.data)] := hH
  obtain rfl : R73 = (⟨some (1, 3), 0, []⟩, ⟨3, 1, [99], dt⟩, true, 0) := by rw [hR74]; exact small_p2 hW hN _ _
  replace hH : Hp w w78 _ _ [.mkd b1 5 (bv [99]), .row (.slice A8 1000 c9) 5 1 dt.length (bv dt), .blk b12 24 [.int .i64 3, .int .i64 1, .slice (some ⟨b1, 0, none⟩) 1 1, .slice A8 1000 c9], .row (.slice A22 (nch (splitB (3 : Int) (1 : Int) [99] dt).length) c23) 63 5 (nch (splitB (3 : Int) (1 : Int) [99] dt).length) (partsC (3 : Int) (1 : Int) (nch (splitB (3 : Int) (1 : Int) [99] dt).length) vs16), .grp (partOwn 5 (splitB (3 : Int) (1 : Int) [99] dt) vs16), .row (.slice A52 (([] : List UInt8).length) c53) 5 1 (([] : List UInt8).length) (bv ([] : List UInt8)), .row (.slice A56 (([] : List UInt8).length) c57) 5 1 (([] : List UInt8).length) (bv ([] : List UInt8)), .blk b60 24 [.int .i64 0, .int .i64 0, .slice A52 (([] : List UInt8).length) c53, .slice A56 (([] : List UInt8).length) c57], .grp (ibxO xb26 nb69 mb27 ⟨some (1, 3), 0, []⟩ l70), .row v71 5 1 ([99].length) (bv [99]), .row v72 5 1 dt.length (bv dt)] := hH
  obtain ⟨A80, c81, rfl, hl82, hm83⟩ := hH.row_form 9 rfl
  obtain ⟨A84, c85, rfl, hl86, hm87⟩ := hH.row_form 10 rfl
  replace hH : Hp w w78 _ _ [.mkd b1 5 (bv [99]), .row (.slice A8 1000 c9) 5 1 dt.length (bv dt), .blk b12 24 [.int .i64 3, .int .i64 1, .slice (some ⟨b1, 0, none⟩) 1 1, .slice A8 1000 c9], .row (.slice A22 (nch (splitB (3 : Int) (1 : Int) [99] dt).length) c23) 63 5 (nch (splitB (3 : Int) (1 : Int) [99] dt).length) (partsC (3 : Int) (1 : Int) (nch (splitB (3 : Int) (1 : Int) [99] dt).length) vs16), .grp (partOwn 5 (splitB (3 : Int) (1 : Int) [99] dt) vs16), .row (.slice A52 (([] : List UInt8).length) c53) 5 1 (([] : List UInt8).length) (bv ([] : List UInt8)), .row (.slice A56 (([] : List UInt8).length) c57) 5 1 (([] : List UInt8).length) (bv ([] : List UInt8)), .blk b60 24 [.int .i64 0, .int .i64 0, .slice A52 (([] : List UInt8).length) c53, .slice A56 (([] : List UInt8).length) c57], .grp (ibxO xb26 nb69 mb27 ⟨some (1, 3), 0, []⟩ l70), .row (.slice A80 ([99].length) c81) 5 1 ([99].length) (bv [99]), .row (.slice A84 dt.length c85) 5 1 dt.length (bv dt)] := hH
  refine gl_ops 4 [(2, .slice A22 (nch (splitB (3 : Int) (1 : Int) [99] dt).length) c23), (4, Pp xb26 0), (6, .bool false), (7, .nilIface), (8, .int .i64 3), (9, .int .i64 1), (10, .int .i64 0), (67, .agg #[.int .i64 3, .int .i64 1, .slice A80 ([99].length) c81, .slice A84 dt.length c85]), (68, .bool true), (69, .nilIface)] (by kernel_rfl) ?_
  refine gl_st (st_allocH rfl rfl rfl (cs := [.int .i64 0, .int .i64 0, .slice none 0 0, .slice none 0 0]) (by kernel_rfl) hH ?_)
  clear hH; intro b88 w89 hH
  replace hH : Hp w w89 _ _ [.mkd b1 5 (bv [99]), .row (.slice A8 1000 c9) 5 1 dt.length (bv dt), .blk b12 24 [.int .i64 3, .int .i64 1, .slice (some ⟨b1, 0, none⟩) 1 1, .slice A8 1000 c9], .row (.slice A22 (nch (splitB (3 : Int) (1 : Int) [99] dt).length) c23) 63 5 (nch (splitB (3 : Int) (1 : Int) [99] dt).length) (partsC (3 : Int) (1 : Int) (nch (splitB (3 : Int) (1 : Int) [99] dt).length) vs16), .grp (partOwn 5 (splitB (3 : Int) (1 : Int) [99] dt) vs16), .row (.slice A52 (([] : List UInt8).length) c53) 5 1 (([] : List UInt8).length) (bv ([] : List UInt8)), .row (.slice A56 (([] : List UInt8).length) c57) 5 1 (([] : List UInt8).length) (bv ([] : List UInt8)), .blk b60 24 [.int .i64 0, .int .i64 0, .slice A52 (([] : List UInt8).length) c53, .slice A56 (([] : List UInt8).length) c57], .grp (ibxO xb26 nb69 mb27 ⟨some (1, 3), 0, []⟩ l70), .row (.slice A80 ([99].length) c81) 5 1 ([99].length) (bv [99]), .row (.slice A84 dt.length c85) 5 1 dt.length (bv dt), .blk b88 24 [.int .i64 0, .int .i64 0, .slice none 0 0, .slice none 0 0]] := hH
  refine gl_st (st_storeKA (vs := [.int .i64 3, .int .i64 1, .slice A80 ([99].length) c81, .slice A84 dt.length c85]) 11 rfl rfl rfl hH rfl rfl (by kernel_rfl) (by kernel_rfl) rfl (by simp) [.int .i64 3, .int .i64 1, .slice A80 ([99].length) c81, .slice A84 dt.length c85] rfl ?_)
  clear hH; intro w90 hH
  replace hH : Hp w w90 _ _ [.mkd b1 5 (bv [99]), .row (.slice A8 1000 c9) 5 1 dt.length (bv dt), .blk b12 24 [.int .i64 3, .int .i64 1, .slice (some ⟨b1, 0, none⟩) 1 1, .slice A8 1000 c9], .row (.slice A22 (nch (splitB (3 : Int) (1 : Int) [99] dt).length) c23) 63 5 (nch (splitB (3 : Int) (1 : Int) [99] dt).length) (partsC (3 : Int) (1 : Int) (nch (splitB (3 : Int) (1 : Int) [99] dt).length) vs16), .grp (partOwn 5 (splitB (3 : Int) (1 : Int) [99] dt) vs16), .row (.slice A52 (([] : List UInt8).length) c53) 5 1 (([] : List UInt8).length) (bv ([] : List UInt8)), .row (.slice A56 (([] : List UInt8).length) c57) 5 1 (([] : List UInt8).length) (bv ([] : List UInt8)), .blk b60 24 [.int .i64 0, .int .i64 0, .slice A52 (([] : List UInt8).length) c53, .slice A56 (([] : List UInt8).length) c57], .grp (ibxO xb26 nb69 mb27 ⟨some (1, 3), 0, []⟩ l70), .row (.slice A80 ([99].length) c81) 5 1 ([99].length) (bv [99]), .row (.slice A84 dt.length c85) 5 1 dt.length (bv dt), .blk b88 24 [.int .i64 3, .int .i64 1, .slice A80 ([99].length) c81, .slice A84 dt.length c85]] := hH
  refine gl_ops 2 [(2, .slice A22 (nch (splitB (3 : Int) (1 : Int) [99] dt).length) c23), (4, Pp xb26 0), (6, .bool false), (7, .nilIface), (8, .int .i64 3), (9, .int .i64 1), (10, .int .i64 0), (11, Pp b88 0), (12, .bool true), (13, .nilIface)] (by kernel_rfl) ?_
  refine gl_dn rfl ?_
  refine sw_sr ?_
  obtain ⟨b92, hb91, hi93⟩ := hH.row_idx 3 rfl 0 (by rw [hN]; omega)
  refine gl_ops 2 [(6, .bool false), (7, .nilIface), (8, .int .i64 3), (9, .int .i64 1), (10, .int .i64 0), (11, Pp b88 0), (12, .bool true), (13, .nilIface), (71, Pp xb26 0), (72, .slice A22 (nch (splitB (3 : Int) (1 : Int) [99] dt).length) c23)] (by kernel_rfl) ?_
  refine gl_q rfl rfl rfl (rd_idx (e := 63) (m := 5) (by kernel_rfl) (by kernel_rfl) rfl rfl hi93) ?_
  refine gl_q rfl rfl rfl (rd_loadOA (q := 5) 3 (by kernel_rfl) hH rfl rfl hb91 (by kernel_rfl) [.int .i64 3, .int .i64 1, .int .i64 0, Ni (nch (splitB (3 : Int) (1 : Int) [99] dt).length), (vs16.getD 0 undef)] rfl (partsC_all (3 : Int) (1 : Int) (nch (splitB (3 : Int) (1 : Int) [99] dt).length) vs16 0 (by rw [hl17]; rw [hN]; omega))) ?_
  replace hH := hH.pick [8, 0, 1, 2, 3, 4, 5, 6, 7, 9, 10, 11] (by kernel_rfl) (os' := [.grp (ibxO xb26 nb69 mb27 ⟨some (1, 3), 0, []⟩ l70)] ++ [.mkd b1 5 (bv [99]), .row (.slice A8 1000 c9) 5 1 dt.length (bv dt), .blk b12 24 [.int .i64 3, .int .i64 1, .slice (some ⟨b1, 0, none⟩) 1 1, .slice A8 1000 c9], .row (.slice A22 (nch (splitB (3 : Int) (1 : Int) [99] dt).length) c23) 63 5 (nch (splitB (3 : Int) (1 : Int) [99] dt).length) (partsC (3 : Int) (1 : Int) (nch (splitB (3 : Int) (1 : Int) [99] dt).length) vs16), .grp (partOwn 5 (splitB (3 : Int) (1 : Int) [99] dt) vs16), .row (.slice A52 (([] : List UInt8).length) c53) 5 1 (([] : List UInt8).length) (bv ([] : List UInt8)), .row (.slice A56 (([] : List UInt8).length) c57) 5 1 (([] : List UInt8).length) (bv ([] : List UInt8)), .blk b60 24 [.int .i64 0, .int .i64 0, .slice A52 (([] : List UInt8).length) c53, .slice A56 (([] : List UInt8).length) c57], .row (.slice A80 ([99].length) c81) 5 1 ([99].length) (bv [99]), .row (.slice A84 dt.length c85) 5 1 dt.length (bv dt), .blk b88 24 [.int .i64 3, .int .i64 1, .slice A80 ([99].length) c81, .slice A84 dt.length c85]]) (by kernel_rfl)
  refine gl_st (st_call rfl rfl rfl (by kernel_rfl) rfl (Put_ct _ _ _ ⟨some (1, 3), 0, []⟩ _ (partP (3 : Int) (1 : Int) (splitB (3 : Int) (1 : Int) [99] dt) 0) _ _ hH.mine (part_off hH 4 rfl 0 (by rw [hl17]; rw [hN]; omega)) (hW.i64 0 (by rw [hN]; omega)) hf75) ?_)
  rintro _ w104 ⟨nv94, nb95, l96, v97, v98, R99, rfl, hR100, hf101, hF105⟩
  replace hH := hH.turns hF105; clear hF105
  replace hH : Hp w w104 _ _ [.mkd b1 5 (bv [99]), .row (.slice A8 1000 c9) 5 1 dt.length (bv dt), .blk b12 24 [.int .i64 3, .int .i64 1, .slice (some ⟨b1, 0, none⟩) 1 1, .slice A8 1000 c9], .row (.slice A22 (nch (splitB (3 : Int) (1 : Int) [99] dt).length) c23) 63 5 (nch (splitB (3 : Int) (1 : Int) [99] dt).length) (partsC (3 : Int) (1 : Int) (nch (splitB (3 : Int) (1 : Int) [99] dt).length) vs16), .grp (partOwn 5 (splitB (3 : Int) (1 : Int) [99] dt) vs16), .row (.slice A52 (([] : List UInt8).length) c53) 5 1 (([] : List UInt8).length) (bv ([] : List UInt8)), .row (.slice A56 (([] : List UInt8).length) c57) 5 1 (([] : List UInt8).length) (bv ([] : List UInt8)), .blk b60 24 [.int .i64 0, .int .i64 0, .slice A52 (([] : List UInt8).length) c53, .slice A56 (([] : List UInt8).length) c57], .row (.slice A80 ([99].length) c81) 5 1 ([99].length) (bv [99]), .row (.slice A84 dt.length c85) 5 1 dt.length (bv dt), .blk b88 24 [.int .i64 3, .int .i64 1, .slice A80 ([99].length) c81, .slice A84 dt.length c85], .grp (ibxO xb26 nb95 mb27 R99.1 l96), .row v97 5 1 R99.2.1.conf.length (bv R99.2.1.conf), .row v98 5 1 R99.2.1.data.length (bv R99.2.1.data)] := hH
  obtain rfl : R99 = (⟨some (1, 3), 0, []⟩, ⟨0, 0, ([] : List UInt8), ([] : List UInt8)⟩, false, 91) := by rw [hR100]; exact small_p3 hW hN _
  replace hH : Hp w w104 _ _ [.mkd b1 5 (bv [99]), .row (.slice A8 1000 c9) 5 1 dt.length (bv dt), .blk b12 24 [.int .i64 3, .int .i64 1, .slice (some ⟨b1, 0, none⟩) 1 1, .slice A8 1000 c9], .row (.slice A22 (nch (splitB (3 : Int) (1 : Int) [99] dt).length) c23) 63 5 (nch (splitB (3 : Int) (1 : Int) [99] dt).length) (partsC (3 : Int) (1 : Int) (nch (splitB (3 : Int) (1 : Int) [99] dt).length) vs16), .grp (partOwn 5 (splitB (3 : Int) (1 : Int) [99] dt) vs16), .row (.slice A52 (([] : List UInt8).length) c53) 5 1 (([] : List UInt8).length) (bv ([] : List UInt8)), .row (.slice A56 (([] : List UInt8).length) c57) 5 1 (([] : List UInt8).length) (bv ([] : List UInt8)), .blk b60 24 [.int .i64 0, .int .i64 0, .slice A52 (([] : List UInt8).length) c53, .slice A56 (([] : List UInt8).length) c57], .row (.slice A80 ([99].length) c81) 5 1 ([99].length) (bv [99]), .row (.slice A84 dt.length c85) 5 1 dt.length (bv dt), .blk b88 24 [.int .i64 3, .int .i64 1, .slice A80 ([99].length) c81, .slice A84 dt.length c85], .grp (ibxO xb26 nb95 mb27 ⟨some (1, 3), 0, []⟩ l96), .row v97 5 1 (([] : List UInt8).length) (bv ([] : List UInt8)), .row v98 5 1 (([] : List UInt8).length) (bv ([] : List UInt8))] := hH
  obtain ⟨A106, c107, rfl, hl108, hm109⟩ := hH.row_form 12 rfl
  obtain ⟨A110, c111, rfl, hl112, hm113⟩ := hH.row_form 13 rfl
  replace hH : Hp w w104 _ _ [.mkd b1 5 (bv [99]), .row (.slice A8 1000 c9) 5 1 dt.length (bv dt), .blk b12 24 [.int .i64 3, .int .i64 1, .slice (some ⟨b1, 0, none⟩) 1 1, .slice A8 1000 c9], .row (.slice A22 (nch (splitB (3 : Int) (1 : Int) [99] dt).length) c23) 63 5 (nch (splitB (3 : Int) (1 : Int) [99] dt).length) (partsC (3 : Int) (1 : Int) (nch (splitB (3 : Int) (1 : Int) [99] dt).length) vs16), .grp (partOwn 5 (splitB (3 : Int) (1 : Int) [99] dt) vs16), .row (.slice A52 (([] : List UInt8).length) c53) 5 1 (([] : List UInt8).length) (bv ([] : List UInt8)), .row (.slice A56 (([] : List UInt8).length) c57) 5 1 (([] : List UInt8).length) (bv ([] : List UInt8)), .blk b60 24 [.int .i64 0, .int .i64 0, .slice A52 (([] : List UInt8).length) c53, .slice A56 (([] : List UInt8).length) c57], .row (.slice A80 ([99].length) c81) 5 1 ([99].length) (bv [99]), .row (.slice A84 dt.length c85) 5 1 dt.length (bv dt), .blk b88 24 [.int .i64 3, .int .i64 1, .slice A80 ([99].length) c81, .slice A84 dt.length c85], .grp (ibxO xb26 nb95 mb27 ⟨some (1, 3), 0, []⟩ l96), .row (.slice A106 (([] : List UInt8).length) c107) 5 1 (([] : List UInt8).length) (bv ([] : List UInt8)), .row (.slice A110 (([] : List UInt8).length) c111) 5 1 (([] : List UInt8).length) (bv ([] : List UInt8))] := hH
  refine gl_ops 4 [(6, .bool false), (7, .nilIface), (8, .int .i64 3), (9, .int .i64 1), (10, .int .i64 0), (11, Pp b88 0), (12, .bool true), (13, .nilIface), (76, .agg #[.int .i64 0, .int .i64 0, .slice A106 (([] : List UInt8).length) c107, .slice A110 (([] : List UInt8).length) c111]), (77, .bool false), (78, errV 91)] (by kernel_rfl) ?_
  refine gl_st (st_allocH rfl rfl rfl (cs := [.int .i64 0, .int .i64 0, .slice none 0 0, .slice none 0 0]) (by kernel_rfl) hH ?_)
  clear hH; intro b114 w115 hH
  replace hH : Hp w w115 _ _ [.mkd b1 5 (bv [99]), .row (.slice A8 1000 c9) 5 1 dt.length (bv dt), .blk b12 24 [.int .i64 3, .int .i64 1, .slice (some ⟨b1, 0, none⟩) 1 1, .slice A8 1000 c9], .row (.slice A22 (nch (splitB (3 : Int) (1 : Int) [99] dt).length) c23) 63 5 (nch (splitB (3 : Int) (1 : Int) [99] dt).length) (partsC (3 : Int) (1 : Int) (nch (splitB (3 : Int) (1 : Int) [99] dt).length) vs16), .grp (partOwn 5 (splitB (3 : Int) (1 : Int) [99] dt) vs16), .row (.slice A52 (([] : List UInt8).length) c53) 5 1 (([] : List UInt8).length) (bv ([] : List UInt8)), .row (.slice A56 (([] : List UInt8).length) c57) 5 1 (([] : List UInt8).length) (bv ([] : List UInt8)), .blk b60 24 [.int .i64 0, .int .i64 0, .slice A52 (([] : List UInt8).length) c53, .slice A56 (([] : List UInt8).length) c57], .row (.slice A80 ([99].length) c81) 5 1 ([99].length) (bv [99]), .row (.slice A84 dt.length c85) 5 1 dt.length (bv dt), .blk b88 24 [.int .i64 3, .int .i64 1, .slice A80 ([99].length) c81, .slice A84 dt.length c85], .grp (ibxO xb26 nb95 mb27 ⟨some (1, 3), 0, []⟩ l96), .row (.slice A106 (([] : List UInt8).length) c107) 5 1 (([] : List UInt8).length) (bv ([] : List UInt8)), .row (.slice A110 (([] : List UInt8).length) c111) 5 1 (([] : List UInt8).length) (bv ([] : List UInt8)), .blk b114 24 [.int .i64 0, .int .i64 0, .slice none 0 0, .slice none 0 0]] := hH
  refine gl_st (st_storeKA (vs := [.int .i64 0, .int .i64 0, .slice A106 (([] : List UInt8).length) c107, .slice A110 (([] : List UInt8).length) c111]) 14 rfl rfl rfl hH rfl rfl (by kernel_rfl) (by kernel_rfl) rfl (by simp) [.int .i64 0, .int .i64 0, .slice A106 (([] : List UInt8).length) c107, .slice A110 (([] : List UInt8).length) c111] rfl ?_)
  clear hH; intro w116 hH
  replace hH : Hp w w116 _ _ [.mkd b1 5 (bv [99]), .row (.slice A8 1000 c9) 5 1 dt.length (bv dt), .blk b12 24 [.int .i64 3, .int .i64 1, .slice (some ⟨b1, 0, none⟩) 1 1, .slice A8 1000 c9], .row (.slice A22 (nch (splitB (3 : Int) (1 : Int) [99] dt).length) c23) 63 5 (nch (splitB (3 : Int) (1 : Int) [99] dt).length) (partsC (3 : Int) (1 : Int) (nch (splitB (3 : Int) (1 : Int) [99] dt).length) vs16), .grp (partOwn 5 (splitB (3 : Int) (1 : Int) [99] dt) vs16), .row (.slice A52 (([] : List UInt8).length) c53) 5 1 (([] : List UInt8).length) (bv ([] : List UInt8)), .row (.slice A56 (([] : List UInt8).length) c57) 5 1 (([] : List UInt8).length) (bv ([] : List UInt8)), .blk b60 24 [.int .i64 0, .int .i64 0, .slice A52 (([] : List UInt8).length) c53, .slice A56 (([] : List UInt8).length) c57], .row (.slice A80 ([99].length) c81) 5 1 ([99].length) (bv [99]), .row (.slice A84 dt.length c85) 5 1 dt.length (bv dt), .blk b88 24 [.int .i64 3, .int .i64 1, .slice A80 ([99].length) c81, .slice A84 dt.length c85], .grp (ibxO xb26 nb95 mb27 ⟨some (1, 3), 0, []⟩ l96), .row (.slice A106 (([] : List UInt8).length) c107) 5 1 (([] : List UInt8).length) (bv ([] : List UInt8)), .row (.slice A110 (([] : List UInt8).length) c111) 5 1 (([] : List UInt8).length) (bv ([] : List UInt8)), .blk b114 24 [.int .i64 0, .int .i64 0, .slice A106 (([] : List UInt8).length) c107, .slice A110 (([] : List UInt8).length) c111]] := hH
  refine gl_ops 2 [(6, .bool false), (7, .nilIface), (8, .int .i64 3), (9, .int .i64 1), (10, .int .i64 0), (11, Pp b88 0), (12, .bool true), (13, .nilIface), (16, errV 91)] (by kernel_rfl) ?_
  refine gl_dn rfl ?_
  refine sw_sr ?_
  refine gl_ops 27 [(16, errV 91), (104, .bool true), (105, Pp b88 3)] (by kernel_rfl) ?_
  refine gl_q rfl rfl rfl (rd_loadK 10 (by kernel_rfl) hH rfl rfl rfl) ?_
  refine gl_q rfl rfl rfl (rd_len (e := 5) (by kernel_rfl) rfl) ?_
  refine gl_ops 1 [(16, errV 91), (104, .bool true), (108, .bool (((dt.length : Nat) : Int) == (1000 : Int)))] (by kernel_rfl) ?_
  refine gl_cv 108 (.bool true) (by rw [hdl]; rfl) rfl ?_
  refine gl_ops 3 [(110, .bool true), (111, errV 91)] (by kernel_rfl) ?_
  refine gl_st (st_call rfl rfl rfl (by kernel_rfl) rfl (Code_ct 91 _ (hH.zin _ _ hG)) ?_)
  rintro _ w117 ⟨rfl, hF118⟩
  replace hH := hH.call hF118; clear hF118
  replace hH : Hp w w117 _ _ [.mkd b1 5 (bv [99]), .row (.slice A8 1000 c9) 5 1 dt.length (bv dt), .blk b12 24 [.int .i64 3, .int .i64 1, .slice (some ⟨b1, 0, none⟩) 1 1, .slice A8 1000 c9], .row (.slice A22 (nch (splitB (3 : Int) (1 : Int) [99] dt).length) c23) 63 5 (nch (splitB (3 : Int) (1 : Int) [99] dt).length) (partsC (3 : Int) (1 : Int) (nch (splitB (3 : Int) (1 : Int) [99] dt).length) vs16), .grp (partOwn 5 (splitB (3 : Int) (1 : Int) [99] dt) vs16), .row (.slice A52 (([] : List UInt8).length) c53) 5 1 (([] : List UInt8).length) (bv ([] : List UInt8)), .row (.slice A56 (([] : List UInt8).length) c57) 5 1 (([] : List UInt8).length) (bv ([] : List UInt8)), .blk b60 24 [.int .i64 0, .int .i64 0, .slice A52 (([] : List UInt8).length) c53, .slice A56 (([] : List UInt8).length) c57], .row (.slice A80 ([99].length) c81) 5 1 ([99].length) (bv [99]), .row (.slice A84 dt.length c85) 5 1 dt.length (bv dt), .blk b88 24 [.int .i64 3, .int .i64 1, .slice A80 ([99].length) c81, .slice A84 dt.length c85], .grp (ibxO xb26 nb95 mb27 ⟨some (1, 3), 0, []⟩ l96), .row (.slice A106 (([] : List UInt8).length) c107) 5 1 (([] : List UInt8).length) (bv ([] : List UInt8)), .row (.slice A110 (([] : List UInt8).length) c111) 5 1 (([] : List UInt8).length) (bv ([] : List UInt8)), .blk b114 24 [.int .i64 0, .int .i64 0, .slice A106 (([] : List UInt8).length) c107, .slice A110 (([] : List UInt8).length) c111]] := hH
  refine gl_ops 3 [(0, .bool true)] (by kernel_rfl) ?_
  refine gl_dn rfl ?_
  refine sw_ret ?_
  refine ret1 rfl rfl  ?_
  exact ⟨rfl, (hH.sublist (List.nil_sublist _)).fresh⟩
end Go.Proofs.YtjcchjgkkplamaaGreatDoor
