/- Law 20: snapshots on a disk, act by act: the program's answers as the document's: the law's walk. -/
import Derived.Test.YtjcchjgkkplamaaGreatDoorVDiskP
import Derived.Test.YtjcchjgkkplamaaGreatDoorVDiskR
import Derived.Test.YtjcchjgkkplamaaGreatDoorInvP
import Derived.Test.YtjcchjgkkplamaaGreatDoorDisk3
import Derived.Test.YtjcchjgkkplamaaGreatDoorS18
import Derived.Test.YtjcchjgkkplamaaGreatDoorSmall
set_option maxRecDepth 100000
set_option maxHeartbeats 4000000
set_option linter.unusedVariables false
set_option linter.unusedSimpArgs false
namespace Go.Proofs.YtjcchjgkkplamaaGreatDoor
open Go.RowKit Go.SW
theorem part_save {D : Dsk} {part : Int} (h : PartOk D.ar part) (i t : Int) (cf dt : List UInt8) : PartOk (saveD D i t cf dt).1.ar part := by
  unfold saveD
  split
  · exact h
  · exact part_do h _ _ _ _
/-- An act, as the law's argument tells it. -/
structure VA where
  dv : Int
  n : Int
  m : Int
  i : Int
  t : Int
  vc : Value
  cf : List UInt8
  vd : Value
  dt : List UInt8
  vb : Value
  b : List UInt8
  vl : Value
  ks : List Int
def vaC (a : VA) : List Value := [.int .i64 a.dv, .int .i64 a.n, .int .i64 a.m, .int .i64 a.i, .int .i64 a.t, a.vc, a.vd, a.vb, a.vl]
theorem vaC_len (a : VA) : (vaC a).length = 9 := rfl
/-- What is asked of each act. -/
structure VOk (w : World) (a : VA) : Prop where
  c : RB w.cell? a.vc a.cf
  d : RB w.cell? a.vd a.dt
  b : RB w.cell? a.vb a.b
  l : Row w.cell? a.vl 1 a.ks.length (iv a.ks)
  i : -9223372036854775808 ≤ a.i ∧ a.i ≤ 9223372036854775807
  t : -9223372036854775808 ≤ a.t ∧ a.t ≤ 9223372036854775807
  n : a.n ≤ 9223372036854775807
  dl : a.dt.length ≤ 140737488355328
  bl : a.b.length ≤ 140737488355328
section
variable {D : Dsk} {es es' : List PE} {L L' : FV} {part : Int} {M N : Nat} {R : Dsk × Nat}
theorem inv_save (h : Inv D es L part M N) (hM : 1048584 ≤ M) {i t : Int} {cf dt : List UInt8} (hr : saveD D i t cf dt = R) (h1 : Rep es' R.1.fs) (h2 : L'.map (·.1) = R.1.fs) : Inv R.1 es' L' part M (N + 1) := by
  subst hr
  exact ⟨h1, h2, ar_save h.ar _ _ _ _, part_save h.part _ _ _ _, good_save h.good hM _ _ _ _, Nat.le_trans (len_save _ _ _ _) (by have := h.len; omega)⟩
theorem inv_put (h : Inv D es L part M N) {nm p : List UInt8} (hp : p.length ≤ M) (hr : doD D 2 nm p 0 = R) (h1 : Rep es' R.1.fs) (h2 : L'.map (·.1) = R.1.fs) : Inv R.1 es' L' part M (N + 1) := by
  subst hr
  exact ⟨h1, h2, arOk_do h.ar _ _ _ _, part_do h.part _ _ _ _, good_put h.good _ _ _ hp, Nat.le_trans (len_doD _ _ _ _ _) (by have := h.len; omega)⟩
theorem inv_rem (h : Inv D es L part M N) {nm : List UInt8} (hr : doD D 4 nm [] 0 = R) (h1 : Rep es' R.1.fs) (h2 : L'.map (·.1) = R.1.fs) : Inv R.1 es' L' part M (N + 1) := by
  subst hr
  exact ⟨h1, h2, arOk_do h.ar _ _ _ _, part_do h.part _ _ _ _, good_rem h.good _ _ _ rfl, Nat.le_trans (len_doD _ _ _ _ _) (by have := h.len; omega)⟩
end
theorem RArmV_ct (xb : Nat) (rv : Value) (D : Dsk) (part : Int) (L : FV) (a p : Int) (w : World) (hM : Mine w (ownR xb rv D part L)) :
    Fun Tryz.prog 15 [.pointer (some ⟨xb, 0, none⟩), .int .i64 a, .int .i64 p] w fun v w' => v = .tuple #[] ∧ Turn w w' (ownR xb rv D part L) (ownR xb rv (armD D a p) p L) := by
  have hH : Hp w w (off w (blksOf (ownR xb rv D part L))) (blksOf (ownR xb rv D part L)) ([rhdO xb rv D.off (actsI D.ar) part] ++ [lstO rv L, filRs L]) := (Hp.start_mine hM).open_
  refine (RArm_ct xb rv D.off (actsI D.ar) part a p w hH.mine).mono ?_
  rintro v w' ⟨rfl, hT⟩
  have h2 := (hH.turns hT).pick [2, 0, 1] (by kernel_rfl) rfl
  have h3 : Hp w w' (off w (blksOf (ownR xb rv D part L))) (blksOf (ownR xb rv D part L)) (rdkO xb rv (armD D a p).off (actsI (armD D a p).ar) p L ++ []) := h2.cast (by rw [actsI_arm]; rfl)
  exact ⟨rfl, h3.close.turned⟩

theorem VaultPlays_ct (va : Value) (ac : List VA) (w : World) (hG : w.cell? ⟨0, 0, none⟩ = some errTy) (hR : Row w.cell? va 9 ac.length (rowC vaC ac)) (hok : ∀ a ∈ ac, VOk w a) :
    Fun Tryz.prog 4 [va] w fun v w' => v = .bool true ∧ Fresh w w' [] := by
  obtain ⟨Aa, ca, rfl, ha1, ha2⟩ := hR.form
  have ha3 := ha2
  simp only [maxLen] at ha3
  refine fun_of_sw Tryz.func4 rfl 138 rfl rfl ?_
  have hH := Hp.start w
  refine sw_sr ?_
  refine gl_ops 1 [(0, .slice Aa ac.length ca)] (by kernel_rfl) ?_
  refine gl_dn rfl ?_
  refine sw_sr ?_
  refine gl_st (st_call rfl rfl rfl (by kernel_rfl) rfl (Small_ct _ (hH.zin _ _ hG)) ?_)
  rintro _ w1 ⟨rfl, hF2⟩
  replace hH := hH.call hF2; clear hF2
  refine gl_ops 1 [(0, .slice Aa ac.length ca), (3, .bool true)] (by kernel_rfl) ?_
  refine gl_dn rfl ?_
  refine sw_sr ?_
  refine gl_st (st_call rfl rfl rfl (by kernel_rfl) rfl (DNew_ct _) ?_)
  rintro _ w5 ⟨db3, mb4, rfl, hF6⟩
  replace hH := hH.call hF6; clear hF6
  refine gl_ops 1 [(0, .slice Aa ac.length ca), (3, .bool true), (4, Pp db3 0)] (by kernel_rfl) ?_
  refine gl_dn rfl ?_
  refine sw_seq ?_
  refine sw_sr ?_
  refine gl_ops 6 [(0, .slice Aa ac.length ca), (4, Pp db3 0), (25, .bool false)] (by kernel_rfl) ?_
  refine gl_dn rfl ?_
  refine sw_false rfl rfl ?_
  refine sw_skip ?_
  refine sw_next ?_
  refine sw_sr ?_
  refine gl_st (st_call rfl rfl rfl (by kernel_rfl) rfl (RNew18_ct _) ?_)
  rintro _ w8 ⟨xb7, rfl, hF9⟩
  replace hH := hH.call hF9; clear hF9
  refine gl_ops 1 [(0, .slice Aa ac.length ca), (4, Pp db3 0), (5, Pp xb7 0)] (by kernel_rfl) ?_
  refine gl_dn rfl ?_
  refine sw_seq ?_
  refine sw_sr ?_
  refine gl_ops 1 [(0, .slice Aa ac.length ca), (4, Pp db3 0), (5, Pp xb7 0), (6, .int .i64 0)] (by kernel_rfl) ?_
  refine gl_dn rfl ?_
  refine sw_block ?_
  replace hH := (hH.sublist (.cons_cons _ (.cons_cons _ (List.nil_sublist _))))
  replace hH : Hp w w8 _ _ [.grp (dskO db3 mb4 0 ⟨[], false, none⟩ []), .grp (rdkO xb7 (.slice none 0 0) false (-1) 0 [])] := hH
  refine sw_loop (γ := Nat × Dsk × List PE × Nat × Value × Int × FV) (fun (k, D, es, ab, rv, part, L) => [(0, .slice Aa ac.length ca), (4, Pp db3 0), (5, Pp xb7 0), (6, Ni k)]) (fun (k, D, es, ab, rv, part, L) w_ => (k ≤ ac.length) ∧ (k ≤ 60) ∧ (Inv D es L part 140737488355328 k) ∧ Hp w w_ (w.cell?) [] [.grp (dskO db3 mb4 ab D es), .grp (rdkO xb7 rv (D).off (actsI (D).ar) part L)]) (fun (k, D, es, ab, rv, part, L) => ac.length - k) (0, ⟨[], false, none⟩, [], 0, .slice none 0 0, 0, []) (Sub.of_eq (by kernel_rfl)) ?_ ?_
  · exact ⟨by omega, by omega, inv_new _, hH⟩
  clear hH
  rintro ⟨k, D, es, ab, rv, part, L⟩ w10 ⟨hk1, hk2, hI, hH⟩
  refine sw_keep [(0, .slice Aa ac.length ca), (4, Pp db3 0), (5, Pp xb7 0), (6, Ni k)] (by kernel_rfl) ?_
  refine sw_seq ?_
  refine sw_sr ?_
  refine gl_ops 2 [(0, .slice Aa ac.length ca), (4, Pp db3 0), (5, Pp xb7 0), (6, Ni k), (27, Ni k), (28, .slice Aa ac.length ca)] (by kernel_rfl) ?_
  refine gl_q rfl rfl rfl (rd_len (e := 44) (by kernel_rfl) rfl) ?_
  refine gl_ops 2 [(0, .slice Aa ac.length ca), (4, Pp db3 0), (5, Pp xb7 0), (6, Ni k), (31, .bool (decide (((k : Nat) : Int) < ((ac.length : Nat) : Int))))] (by kernel_rfl) ?_
  refine gl_split 31 (b := decide (((k : Nat) : Int) < ((ac.length : Nat) : Int))) rfl (fun hg2 => ?_) (fun hg2 => ?_)
  ·
    try simp only [decide_eq_true_eq] at hg2
    refine gl_ops 3 [(0, .slice Aa ac.length ca), (4, Pp db3 0), (5, Pp xb7 0), (6, Ni k), (34, .bool (decide (((k : Nat) : Int) < (60 : Int))))] (by kernel_rfl) ?_
    refine gl_dn rfl ?_
    refine sw_cond rfl rfl (fun hc3 => ?_) (fun hc3 => ?_)
    ·
      try simp only [decide_eq_true_eq] at hc3
      refine sw_skip ?_
      refine sw_next ?_
      refine sw_seq ?_
      refine sw_block ?_
      obtain ⟨⟨dv, n, m, i, t, vc, cf, vd, dt, vb, b, vl, ks⟩, ha⟩ : ∃ a, ac[k]? = some a := ⟨_, List.getElem?_eq_getElem (by omega)⟩
      have hka := hok _ (List.mem_of_getElem? ha)
      obtain ⟨kc, kd, kb, kl, hi, ht, hn, hdl, hbl⟩ := hka
      simp only at kc kd kb kl hi ht hn hdl hbl
      obtain ⟨Ac, cc, rfl, _, _⟩ := kc.row.form
      obtain ⟨Ad, cd, rfl, _, _⟩ := kd.row.form
      obtain ⟨Ab, cb, rfl, _, _⟩ := kb.row.form
      obtain ⟨Ak, ck, rfl, _, _⟩ := kl.form
      refine sw_sr ?_
      obtain ⟨p11, hi13, hp12⟩ := hR.idx k (by omega) (by decide)
      refine gl_ops 2 [(0, .slice Aa ac.length ca), (4, Pp db3 0), (5, Pp xb7 0), (6, Ni k), (37, .slice Aa ac.length ca), (38, Ni k)] (by kernel_rfl) ?_
      refine gl_q rfl rfl rfl (rd_idx (e := 44) (m := 9) (by kernel_rfl) (by kernel_rfl) rfl rfl hi13) ?_
      refine gl_q rfl rfl rfl (rd_loadZA (by kernel_rfl) hH hp12 rfl 0 rfl [.int .i64 dv, .int .i64 n, .int .i64 m, .int .i64 i, .int .i64 t, .slice Ac cf.length cc, .slice Ad dt.length cd, .slice Ab b.length cb, .slice Ak ks.length ck] (by kernel_rfl) (rowC_all vaC_len ha 0 _ rfl)) ?_
      refine gl_st (st_allocH rfl rfl rfl (cs := [.int .i64 0, .int .i64 0, .int .i64 0, .int .i64 0, .int .i64 0, .slice none 0 0, .slice none 0 0, .slice none 0 0, .slice none 0 0]) (by kernel_rfl) hH ?_)
      clear hH; intro b14 w15 hH
      refine gl_st (st_storeKA (vs := [.int .i64 dv, .int .i64 n, .int .i64 m, .int .i64 i, .int .i64 t, .slice Ac cf.length cc, .slice Ad dt.length cd, .slice Ab b.length cb, .slice Ak ks.length ck]) 2 rfl rfl rfl hH rfl rfl (by kernel_rfl) (by kernel_rfl) rfl (by simp) [.int .i64 dv, .int .i64 n, .int .i64 m, .int .i64 i, .int .i64 t, .slice Ac cf.length cc, .slice Ad dt.length cd, .slice Ab b.length cb, .slice Ak ks.length ck] rfl ?_)
      clear hH; intro w16 hH
      refine gl_dn rfl ?_
      refine sw_sr ?_
      refine gl_ops 1 [(0, .slice Aa ac.length ca), (4, Pp db3 0), (5, Pp xb7 0), (6, Ni k), (7, Pp b14 0), (8, .nilIface)] (by kernel_rfl) ?_
      refine gl_dn rfl ?_
      refine sw_sr ?_
      refine gl_ops 1 [(0, .slice Aa ac.length ca), (4, Pp db3 0), (5, Pp xb7 0), (6, Ni k), (7, Pp b14 0), (8, .nilIface), (9, .int .i64 0)] (by kernel_rfl) ?_
      refine gl_dn rfl ?_
      refine sw_cut (γ := Dsk × List PE × Nat × Value × Int × FV × Nat) (fun (Dn, esn, abn, rvn, pn, Ln, er) => [(0, .slice Aa ac.length ca), (4, Pp db3 0), (5, Pp xb7 0), (6, Ni k), (8, errV er), (9, Ni er)]) (fun (Dn, esn, abn, rvn, pn, Ln, er) w_ => (Inv Dn esn Ln pn 140737488355328 (k + 1)) ∧ Hp w w_ (w.cell?) [] [.grp (dskO db3 mb4 abn Dn esn), .grp (rdkO xb7 rvn (Dn).off (actsI (Dn).ar) pn Ln)]) ?_ ?_
      ·
        refine sw_sr ?_
        refine gl_ops 1 [(0, .slice Aa ac.length ca), (4, Pp db3 0), (5, Pp xb7 0), (6, Ni k), (7, Pp b14 0), (8, .nilIface), (9, .int .i64 0), (41, Pp b14 0)] (by kernel_rfl) ?_
        refine gl_q rfl rfl rfl (rd_loadK 2 (by kernel_rfl) hH rfl rfl rfl) ?_
        refine gl_dn rfl ?_
        refine sw_block ?_
        refine sw_sr ?_
        refine gl_ops 2 [(0, .slice Aa ac.length ca), (4, Pp db3 0), (5, Pp xb7 0), (6, Ni k), (7, Pp b14 0), (8, .nilIface), (9, .int .i64 0), (42, .int .i64 dv), (43, .bool ((dv : Int) == (0 : Int)))] (by kernel_rfl) ?_
        refine gl_dn rfl ?_
        refine sw_cond rfl rfl (fun hc4 => ?_) (fun hc4 => ?_)
        ·
          try simp only [beq_iff_eq] at hc4
          subst hc4
          refine sw_sr ?_
          refine gl_ops 2 [(0, .slice Aa ac.length ca), (4, Pp db3 0), (5, Pp xb7 0), (6, Ni k), (7, Pp b14 0), (45, Pp db3 0), (46, Pp b14 3)] (by kernel_rfl) ?_
          refine gl_q rfl rfl rfl (rd_loadKA (m := 4) 2 (by kernel_rfl) hH rfl rfl (by kernel_rfl) [.int .i64 i, .int .i64 t, .slice Ac cf.length cc, .slice Ad dt.length cd] rfl rfl) ?_
          obtain ⟨R, hr⟩ : ∃ R, saveD D i t cf dt = R := ⟨_, rfl⟩
          replace hH : Hp w w16 _ _ ([.grp (dskO db3 mb4 ab D es)] ++ [.grp (rdkO xb7 rv (D).off (actsI (D).ar) part L), .blk b14 44 [.int .i64 0, .int .i64 n, .int .i64 m, .int .i64 i, .int .i64 t, .slice Ac cf.length cc, .slice Ad dt.length cd, .slice Ab b.length cb, .slice Ak ks.length ck]]) := hH
          refine gl_st (st_call rfl rfl rfl (by kernel_rfl) rfl (by have h9 := Save_ct db3 mb4 ab D es i t _ _ cf dt 140737488355328 _ hH.mine hI.rep hI.ar hI.good (by omega) (kc.mono hH.zoff) (kd.mono hH.zoff) hi ht hdl; rw [hr] at h9; exact h9) ?_)
          rintro _ w17 ⟨es2, rfl, hR2, hF18⟩
          replace hH := hH.turns hF18; clear hF18
          replace hH : Hp w w17 _ _ [.grp (rdkO xb7 rv (D).off (actsI (D).ar) part L), .blk b14 44 [.int .i64 0, .int .i64 n, .int .i64 m, .int .i64 i, .int .i64 t, .slice Ac cf.length cc, .slice Ad dt.length cd, .slice Ab b.length cb, .slice Ak ks.length ck], .grp (dskO db3 mb4 ab R.1 es2)] := hH
          refine gl_ops 1 [(0, .slice Aa ac.length ca), (4, Pp db3 0), (5, Pp xb7 0), (6, Ni k), (7, Pp b14 0), (8, errV R.2)] (by kernel_rfl) ?_
          refine gl_dn rfl ?_
          refine sw_region ?_
          refine gl_ops 2 [(0, .slice Aa ac.length ca), (4, Pp db3 0), (5, Pp xb7 0), (6, Ni k), (8, errV R.2), (49, Pp xb7 0), (50, Pp b14 3)] (by kernel_rfl) ?_
          refine gl_q rfl rfl rfl (rd_loadKA (m := 4) 1 (by kernel_rfl) hH rfl rfl (by kernel_rfl) [.int .i64 i, .int .i64 t, .slice Ac cf.length cc, .slice Ad dt.length cd] rfl rfl) ?_
          replace hH : Hp w w17 _ _ ([.grp (rdkO xb7 rv (D).off (actsI (D).ar) part L)] ++ [.blk b14 44 [.int .i64 0, .int .i64 n, .int .i64 m, .int .i64 i, .int .i64 t, .slice Ac cf.length cc, .slice Ad dt.length cd, .slice Ab b.length cb, .slice Ak ks.length ck], .grp (dskO db3 mb4 ab R.1 es2)]) := hH
          refine gl_st (st_call rfl rfl rfl (by kernel_rfl) rfl (by have h9 := RSave_ct xb7 _ D part L i t _ _ cf dt 140737488355328 _ hH.mine hI.fst hI.ar hI.part hI.good (by omega) (by have := hI.llen; omega) (kc.mono hH.zoff) (kd.mono hH.zoff) hi ht hdl; rw [hr] at h9; exact h9) ?_)
          rintro _ w19 ⟨rv2, L2, rfl, hL2, hF20⟩
          replace hH := hH.turns hF20; clear hF20
          replace hH : Hp w w19 _ _ [.blk b14 44 [.int .i64 0, .int .i64 n, .int .i64 m, .int .i64 i, .int .i64 t, .slice Ac cf.length cc, .slice Ad dt.length cd, .slice Ab b.length cb, .slice Ak ks.length ck], .grp (dskO db3 mb4 ab R.1 es2), .grp (rdkO xb7 rv2 (R.1).off (actsI (R.1).ar) part L2)] := hH
          refine gl_ops 1 [(0, .slice Aa ac.length ca), (4, Pp db3 0), (5, Pp xb7 0), (6, Ni k), (8, errV R.2), (9, Ni R.2)] (by kernel_rfl) ?_
          refine gl_done rfl ?_
          refine bkN ?_
          refine cut_end (R.1, es2, ab, rv2, part, L2, R.2) (Sub.of_eq (by kernel_rfl)) ?_
          replace hH := hH.pick [1, 2, 0] (by kernel_rfl) (os' := [.grp (dskO db3 mb4 ab R.1 es2), .grp (rdkO xb7 rv2 (R.1).off (actsI (R.1).ar) part L2), .blk b14 44 [.int .i64 0, .int .i64 n, .int .i64 m, .int .i64 i, .int .i64 t, .slice Ac cf.length cc, .slice Ad dt.length cd, .slice Ab b.length cb, .slice Ak ks.length ck]]) (by kernel_rfl)
          replace hH := (hH.sublist (.cons_cons _ (.cons_cons _ (List.nil_sublist _))))
          replace hH : Hp w w19 _ _ [.grp (dskO db3 mb4 ab R.1 es2), .grp (rdkO xb7 rv2 (R.1).off (actsI (R.1).ar) part L2)] := hH
          exact ⟨inv_save hI (by omega) hr hR2 hL2, hH⟩
        try simp only [beq_eq_false_iff_ne, ne_eq] at hc4
        have hd0 := hc4
        refine sw_sr ?_
        refine gl_ops 2 [(0, .slice Aa ac.length ca), (4, Pp db3 0), (5, Pp xb7 0), (6, Ni k), (7, Pp b14 0), (8, .nilIface), (9, .int .i64 0), (42, .int .i64 dv), (53, .bool ((dv : Int) == (2 : Int)))] (by kernel_rfl) ?_
        refine gl_dn rfl ?_
        refine sw_cond rfl rfl (fun hc5 => ?_) (fun hc5 => ?_)
        ·
          try simp only [beq_iff_eq] at hc5
          subst hc5
          refine sw_sr ?_
          refine gl_ops 2 [(0, .slice Aa ac.length ca), (4, Pp db3 0), (5, Pp xb7 0), (6, Ni k), (7, Pp b14 0), (8, .nilIface), (9, .int .i64 0), (55, Pp db3 0), (56, Pp b14 1)] (by kernel_rfl) ?_
          refine gl_q rfl rfl rfl (rd_loadK 2 (by kernel_rfl) hH rfl rfl rfl) ?_
          refine gl_ops 1 [(0, .slice Aa ac.length ca), (4, Pp db3 0), (5, Pp xb7 0), (6, Ni k), (7, Pp b14 0), (8, .nilIface), (9, .int .i64 0), (55, Pp db3 0), (57, .int .i64 n), (58, Pp b14 2)] (by kernel_rfl) ?_
          refine gl_q rfl rfl rfl (rd_loadK 2 (by kernel_rfl) hH rfl rfl rfl) ?_
          replace hH : Hp w w16 _ _ ([.grp (dskO db3 mb4 ab D es)] ++ [.grp (rdkO xb7 rv (D).off (actsI (D).ar) part L), .blk b14 44 [.int .i64 2, .int .i64 n, .int .i64 m, .int .i64 i, .int .i64 t, .slice Ac cf.length cc, .slice Ad dt.length cd, .slice Ab b.length cb, .slice Ak ks.length ck]]) := hH
          refine gl_st (st_call rfl rfl rfl (by kernel_rfl) rfl (Arm_ct db3 mb4 ab D es n m _ hH.mine) ?_)
          rintro _ w21 ⟨ab2, rfl, hF22⟩
          replace hH := hH.turns hF22; clear hF22
          replace hH : Hp w w21 _ _ [.grp (rdkO xb7 rv (D).off (actsI (D).ar) part L), .blk b14 44 [.int .i64 2, .int .i64 n, .int .i64 m, .int .i64 i, .int .i64 t, .slice Ac cf.length cc, .slice Ad dt.length cd, .slice Ab b.length cb, .slice Ak ks.length ck], .grp (dskO db3 mb4 ab2 (armD D n m) es)] := hH
          refine gl_dn rfl ?_
          refine sw_region ?_
          refine gl_ops 2 [(0, .slice Aa ac.length ca), (4, Pp db3 0), (5, Pp xb7 0), (6, Ni k), (7, Pp b14 0), (8, .nilIface), (9, .int .i64 0), (61, Pp xb7 0), (62, Pp b14 1)] (by kernel_rfl) ?_
          refine gl_q rfl rfl rfl (rd_loadK 1 (by kernel_rfl) hH rfl rfl rfl) ?_
          refine gl_ops 1 [(0, .slice Aa ac.length ca), (4, Pp db3 0), (5, Pp xb7 0), (6, Ni k), (8, .nilIface), (9, .int .i64 0), (61, Pp xb7 0), (63, .int .i64 n), (64, Pp b14 2)] (by kernel_rfl) ?_
          refine gl_q rfl rfl rfl (rd_loadK 1 (by kernel_rfl) hH rfl rfl rfl) ?_
          replace hH : Hp w w21 _ _ ([.grp (rdkO xb7 rv (D).off (actsI (D).ar) part L)] ++ [.blk b14 44 [.int .i64 2, .int .i64 n, .int .i64 m, .int .i64 i, .int .i64 t, .slice Ac cf.length cc, .slice Ad dt.length cd, .slice Ab b.length cb, .slice Ak ks.length ck], .grp (dskO db3 mb4 ab2 (armD D n m) es)]) := hH
          refine gl_st (st_call rfl rfl rfl (by kernel_rfl) rfl (RArmV_ct xb7 _ D part L n m _ hH.mine) ?_)
          rintro _ w23 ⟨rfl, hF24⟩
          replace hH := hH.turns hF24; clear hF24
          replace hH : Hp w w23 _ _ [.blk b14 44 [.int .i64 2, .int .i64 n, .int .i64 m, .int .i64 i, .int .i64 t, .slice Ac cf.length cc, .slice Ad dt.length cd, .slice Ab b.length cb, .slice Ak ks.length ck], .grp (dskO db3 mb4 ab2 (armD D n m) es), .grp (rdkO xb7 rv (armD D n m).off (actsI (armD D n m).ar) m L)] := hH
          refine gl_done rfl ?_
          refine bkN ?_
          refine cut_end (armD D n m, es, ab2, rv, m, L, 0) (Sub.of_eq (by kernel_rfl)) ?_
          replace hH := hH.pick [1, 2, 0] (by kernel_rfl) (os' := [.grp (dskO db3 mb4 ab2 (armD D n m) es), .grp (rdkO xb7 rv (armD D n m).off (actsI (armD D n m).ar) m L), .blk b14 44 [.int .i64 2, .int .i64 n, .int .i64 m, .int .i64 i, .int .i64 t, .slice Ac cf.length cc, .slice Ad dt.length cd, .slice Ab b.length cb, .slice Ak ks.length ck]]) (by kernel_rfl)
          replace hH := (hH.sublist (.cons_cons _ (.cons_cons _ (List.nil_sublist _))))
          replace hH : Hp w w23 _ _ [.grp (dskO db3 mb4 ab2 (armD D n m) es), .grp (rdkO xb7 rv (armD D n m).off (actsI (armD D n m).ar) m L)] := hH
          exact ⟨inv_same (inv_arm hI n m hn) (Nat.le_refl _) (by omega), hH⟩
        try simp only [beq_eq_false_iff_ne, ne_eq] at hc5
        have hd2 := hc5
        refine sw_sr ?_
        refine gl_ops 2 [(0, .slice Aa ac.length ca), (4, Pp db3 0), (5, Pp xb7 0), (6, Ni k), (7, Pp b14 0), (8, .nilIface), (9, .int .i64 0), (42, .int .i64 dv), (67, .bool ((dv : Int) == (3 : Int)))] (by kernel_rfl) ?_
        refine gl_dn rfl ?_
        refine sw_cond rfl rfl (fun hc6 => ?_) (fun hc6 => ?_)
        ·
          try simp only [beq_iff_eq] at hc6
          subst hc6
          refine sw_sr ?_
          refine gl_ops 2 [(0, .slice Aa ac.length ca), (4, Pp db3 0), (5, Pp xb7 0), (6, Ni k), (7, Pp b14 0), (8, .nilIface), (9, .int .i64 0), (69, Pp db3 0), (70, Pp b14 8)] (by kernel_rfl) ?_
          refine gl_q rfl rfl rfl (rd_loadK 2 (by kernel_rfl) hH rfl rfl rfl) ?_
          replace hH : Hp w w16 _ _ ([.grp (dskO db3 mb4 ab D es)] ++ [.grp (rdkO xb7 rv (D).off (actsI (D).ar) part L), .blk b14 44 [.int .i64 3, .int .i64 n, .int .i64 m, .int .i64 i, .int .i64 t, .slice Ac cf.length cc, .slice Ad dt.length cd, .slice Ab b.length cb, .slice Ak ks.length ck]]) := hH
          refine gl_st (st_call rfl rfl rfl (by kernel_rfl) rfl (Start_ct db3 mb4 ab D es _ ks 140737488355328 _ hH.mine (kl.mono hH.zoff) hI.rep hI.good (by omega) (by have := hI.len; omega)) ?_)
          rintro _ w25 ⟨es2, rfl, hR2, hF26⟩
          replace hH := hH.turns hF26; clear hF26
          replace hH : Hp w w25 _ _ [.grp (rdkO xb7 rv (D).off (actsI (D).ar) part L), .blk b14 44 [.int .i64 3, .int .i64 n, .int .i64 m, .int .i64 i, .int .i64 t, .slice Ac cf.length cc, .slice Ad dt.length cd, .slice Ab b.length cb, .slice Ak ks.length ck], .grp (dskO db3 mb4 ab (startD D ks) es2)] := hH
          refine gl_dn rfl ?_
          refine sw_region ?_
          refine gl_ops 2 [(0, .slice Aa ac.length ca), (4, Pp db3 0), (5, Pp xb7 0), (6, Ni k), (8, .nilIface), (9, .int .i64 0), (73, Pp xb7 0), (74, Pp b14 8)] (by kernel_rfl) ?_
          refine gl_q rfl rfl rfl (rd_loadK 1 (by kernel_rfl) hH rfl rfl rfl) ?_
          replace hH : Hp w w25 _ _ ([.grp (rdkO xb7 rv (D).off (actsI (D).ar) part L)] ++ [.blk b14 44 [.int .i64 3, .int .i64 n, .int .i64 m, .int .i64 i, .int .i64 t, .slice Ac cf.length cc, .slice Ad dt.length cd, .slice Ab b.length cb, .slice Ak ks.length ck], .grp (dskO db3 mb4 ab (startD D ks) es2)]) := hH
          refine gl_st (st_call rfl rfl rfl (by kernel_rfl) rfl (RStart_ct xb7 _ D part L _ ks 140737488355328 _ hH.mine hI.fst (kl.mono hH.zoff) hI.good (by omega)) ?_)
          rintro _ w27 ⟨L2, rfl, hL2, hF28⟩
          replace hH := hH.turns hF28; clear hF28
          replace hH : Hp w w27 _ _ [.blk b14 44 [.int .i64 3, .int .i64 n, .int .i64 m, .int .i64 i, .int .i64 t, .slice Ac cf.length cc, .slice Ad dt.length cd, .slice Ab b.length cb, .slice Ak ks.length ck], .grp (dskO db3 mb4 ab (startD D ks) es2), .grp (rdkO xb7 rv (startD D ks).off (actsI (startD D ks).ar) part L2)] := hH
          refine gl_done rfl ?_
          refine bkN ?_
          refine cut_end (startD D ks, es2, ab, rv, part, L2, 0) (Sub.of_eq (by kernel_rfl)) ?_
          replace hH := hH.pick [1, 2, 0] (by kernel_rfl) (os' := [.grp (dskO db3 mb4 ab (startD D ks) es2), .grp (rdkO xb7 rv (startD D ks).off (actsI (startD D ks).ar) part L2), .blk b14 44 [.int .i64 3, .int .i64 n, .int .i64 m, .int .i64 i, .int .i64 t, .slice Ac cf.length cc, .slice Ad dt.length cd, .slice Ab b.length cb, .slice Ak ks.length ck]]) (by kernel_rfl)
          replace hH := (hH.sublist (.cons_cons _ (.cons_cons _ (List.nil_sublist _))))
          replace hH : Hp w w27 _ _ [.grp (dskO db3 mb4 ab (startD D ks) es2), .grp (rdkO xb7 rv (startD D ks).off (actsI (startD D ks).ar) part L2)] := hH
          exact ⟨inv_same (inv_start hI ks hR2 hL2) (Nat.le_refl _) (by omega), hH⟩
        try simp only [beq_eq_false_iff_ne, ne_eq] at hc6
        have hd3 := hc6
        refine sw_sr ?_
        refine gl_ops 2 [(0, .slice Aa ac.length ca), (4, Pp db3 0), (5, Pp xb7 0), (6, Ni k), (7, Pp b14 0), (8, .nilIface), (9, .int .i64 0), (42, .int .i64 dv), (77, .bool ((dv : Int) == (4 : Int)))] (by kernel_rfl) ?_
        refine gl_dn rfl ?_
        refine sw_cond rfl rfl (fun hc7 => ?_) (fun hc7 => ?_)
        ·
          try simp only [beq_iff_eq] at hc7
          subst hc7
          refine sw_sr ?_
          refine gl_ops 2 [(0, .slice Aa ac.length ca), (4, Pp db3 0), (5, Pp xb7 0), (6, Ni k), (7, Pp b14 0), (79, Pp db3 0), (80, Pp b14 7)] (by kernel_rfl) ?_
          refine gl_q rfl rfl rfl (rd_loadK 2 (by kernel_rfl) hH rfl rfl rfl) ?_
          obtain ⟨R, hr⟩ : ∃ R, doD D 2 [115, 110, 97, 112] b 0 = R := ⟨_, rfl⟩
          replace hH : Hp w w16 _ _ ([.grp (dskO db3 mb4 ab D es)] ++ [.grp (rdkO xb7 rv (D).off (actsI (D).ar) part L), .blk b14 44 [.int .i64 4, .int .i64 n, .int .i64 m, .int .i64 i, .int .i64 t, .slice Ac cf.length cc, .slice Ad dt.length cd, .slice Ab b.length cb, .slice Ak ks.length ck]]) := hH
          refine gl_st (st_call rfl rfl rfl (by kernel_rfl) rfl (by have h9 := DPut_ct db3 mb4 ab D es [115, 110, 97, 112] _ b 140737488355328 _ hH.mine hI.rep hI.ar hI.good (by omega) (by simp) (kb.mono hH.zoff) hbl; rw [hr] at h9; exact h9) ?_)
          rintro _ w29 ⟨es2, rfl, hR2, hF30⟩
          replace hH := hH.turns hF30; clear hF30
          replace hH : Hp w w29 _ _ [.grp (rdkO xb7 rv (D).off (actsI (D).ar) part L), .blk b14 44 [.int .i64 4, .int .i64 n, .int .i64 m, .int .i64 i, .int .i64 t, .slice Ac cf.length cc, .slice Ad dt.length cd, .slice Ab b.length cb, .slice Ak ks.length ck], .grp (dskO db3 mb4 ab R.1 es2)] := hH
          refine gl_ops 1 [(0, .slice Aa ac.length ca), (4, Pp db3 0), (5, Pp xb7 0), (6, Ni k), (7, Pp b14 0), (8, errV R.2)] (by kernel_rfl) ?_
          refine gl_dn rfl ?_
          refine sw_region ?_
          refine gl_ops 2 [(0, .slice Aa ac.length ca), (4, Pp db3 0), (5, Pp xb7 0), (6, Ni k), (8, errV R.2), (83, Pp xb7 0), (84, Pp b14 7)] (by kernel_rfl) ?_
          refine gl_q rfl rfl rfl (rd_loadK 1 (by kernel_rfl) hH rfl rfl rfl) ?_
          replace hH : Hp w w29 _ _ ([.grp (rdkO xb7 rv (D).off (actsI (D).ar) part L)] ++ [.blk b14 44 [.int .i64 4, .int .i64 n, .int .i64 m, .int .i64 i, .int .i64 t, .slice Ac cf.length cc, .slice Ad dt.length cd, .slice Ab b.length cb, .slice Ak ks.length ck], .grp (dskO db3 mb4 ab R.1 es2)]) := hH
          refine gl_st (st_call rfl rfl rfl (by kernel_rfl) rfl (by have h9 := RDo2_ct xb7 _ D part L [115, 110, 97, 112] _ b 0 140737488355328 _ hH.mine hI.fst hI.ar hI.part hI.good (by omega) (by have := hI.llen; omega) (by simp) (kb.mono hH.zoff) hbl; rw [hr] at h9; exact h9) ?_)
          rintro _ w31 ⟨rv2, L2, rfl, hL2, hF32⟩
          replace hH := hH.turns hF32; clear hF32
          replace hH : Hp w w31 _ _ [.blk b14 44 [.int .i64 4, .int .i64 n, .int .i64 m, .int .i64 i, .int .i64 t, .slice Ac cf.length cc, .slice Ad dt.length cd, .slice Ab b.length cb, .slice Ak ks.length ck], .grp (dskO db3 mb4 ab R.1 es2), .grp (rdkO xb7 rv2 (R.1).off (actsI (R.1).ar) part L2)] := hH
          refine gl_ops 1 [(0, .slice Aa ac.length ca), (4, Pp db3 0), (5, Pp xb7 0), (6, Ni k), (8, errV R.2), (9, Ni R.2)] (by kernel_rfl) ?_
          refine gl_done rfl ?_
          refine bkN ?_
          refine cut_end (R.1, es2, ab, rv2, part, L2, R.2) (Sub.of_eq (by kernel_rfl)) ?_
          replace hH := hH.pick [1, 2, 0] (by kernel_rfl) (os' := [.grp (dskO db3 mb4 ab R.1 es2), .grp (rdkO xb7 rv2 (R.1).off (actsI (R.1).ar) part L2), .blk b14 44 [.int .i64 4, .int .i64 n, .int .i64 m, .int .i64 i, .int .i64 t, .slice Ac cf.length cc, .slice Ad dt.length cd, .slice Ab b.length cb, .slice Ak ks.length ck]]) (by kernel_rfl)
          replace hH := (hH.sublist (.cons_cons _ (.cons_cons _ (List.nil_sublist _))))
          replace hH : Hp w w31 _ _ [.grp (dskO db3 mb4 ab R.1 es2), .grp (rdkO xb7 rv2 (R.1).off (actsI (R.1).ar) part L2)] := hH
          exact ⟨inv_put hI hbl hr hR2 hL2, hH⟩
        try simp only [beq_eq_false_iff_ne, ne_eq] at hc7
        have hd4 := hc7
        refine sw_sr ?_
        refine gl_ops 2 [(0, .slice Aa ac.length ca), (4, Pp db3 0), (5, Pp xb7 0), (6, Ni k), (8, .nilIface), (9, .int .i64 0), (87, .bool ((dv : Int) == (5 : Int)))] (by kernel_rfl) ?_
        refine gl_dn rfl ?_
        refine sw_cond rfl rfl (fun hc8 => ?_) (fun hc8 => ?_)
        ·
          try simp only [beq_iff_eq] at hc8
          subst hc8
          refine sw_sr ?_
          obtain ⟨R, hr⟩ : ∃ R, doD D 4 [115, 110, 97, 112] [] 0 = R := ⟨_, rfl⟩
          refine gl_ops 1 [(0, .slice Aa ac.length ca), (4, Pp db3 0), (5, Pp xb7 0), (6, Ni k), (89, Pp db3 0)] (by kernel_rfl) ?_
          replace hH : Hp w w16 _ _ ([.grp (dskO db3 mb4 ab D es)] ++ [.grp (rdkO xb7 rv (D).off (actsI (D).ar) part L), .blk b14 44 [.int .i64 5, .int .i64 n, .int .i64 m, .int .i64 i, .int .i64 t, .slice Ac cf.length cc, .slice Ad dt.length cd, .slice Ab b.length cb, .slice Ak ks.length ck]]) := hH
          refine gl_st (st_call rfl rfl rfl (by kernel_rfl) rfl (by have h9 := Remove_ct db3 mb4 ab D es [115, 110, 97, 112] 140737488355328 _ hH.mine hI.rep hI.ar hI.good (by omega) (by simp); rw [hr] at h9; exact h9) ?_)
          rintro _ w33 ⟨es2, rfl, hR2, hF34⟩
          replace hH := hH.turns hF34; clear hF34
          replace hH : Hp w w33 _ _ [.grp (rdkO xb7 rv (D).off (actsI (D).ar) part L), .blk b14 44 [.int .i64 5, .int .i64 n, .int .i64 m, .int .i64 i, .int .i64 t, .slice Ac cf.length cc, .slice Ad dt.length cd, .slice Ab b.length cb, .slice Ak ks.length ck], .grp (dskO db3 mb4 ab R.1 es2)] := hH
          refine gl_ops 1 [(0, .slice Aa ac.length ca), (4, Pp db3 0), (5, Pp xb7 0), (6, Ni k), (8, errV R.2)] (by kernel_rfl) ?_
          refine gl_dn rfl ?_
          refine sw_region ?_
          refine gl_ops 1 [(0, .slice Aa ac.length ca), (4, Pp db3 0), (5, Pp xb7 0), (6, Ni k), (8, errV R.2), (91, Pp xb7 0)] (by kernel_rfl) ?_
          replace hH : Hp w w33 _ _ ([.grp (rdkO xb7 rv (D).off (actsI (D).ar) part L)] ++ [.blk b14 44 [.int .i64 5, .int .i64 n, .int .i64 m, .int .i64 i, .int .i64 t, .slice Ac cf.length cc, .slice Ad dt.length cd, .slice Ab b.length cb, .slice Ak ks.length ck], .grp (dskO db3 mb4 ab R.1 es2)]) := hH
          refine gl_st (st_call rfl rfl rfl (by kernel_rfl) rfl (by have h9 := RDo4_ct xb7 _ D part L [115, 110, 97, 112] _ [] 0 140737488355328 _ hH.mine hI.fst hI.ar hI.part hI.good (by omega) (by have := hI.llen; omega) (by simp) (RB.nil _) (by simp); rw [hr] at h9; exact h9) ?_)
          rintro _ w35 ⟨rv2, L2, rfl, hL2, hF36⟩
          replace hH := hH.turns hF36; clear hF36
          replace hH : Hp w w35 _ _ [.blk b14 44 [.int .i64 5, .int .i64 n, .int .i64 m, .int .i64 i, .int .i64 t, .slice Ac cf.length cc, .slice Ad dt.length cd, .slice Ab b.length cb, .slice Ak ks.length ck], .grp (dskO db3 mb4 ab R.1 es2), .grp (rdkO xb7 rv2 (R.1).off (actsI (R.1).ar) part L2)] := hH
          refine gl_ops 1 [(0, .slice Aa ac.length ca), (4, Pp db3 0), (5, Pp xb7 0), (6, Ni k), (8, errV R.2), (9, Ni R.2)] (by kernel_rfl) ?_
          refine gl_done rfl ?_
          refine bkN ?_
          refine cut_end (R.1, es2, ab, rv2, part, L2, R.2) (Sub.of_eq (by kernel_rfl)) ?_
          replace hH := hH.pick [1, 2, 0] (by kernel_rfl) (os' := [.grp (dskO db3 mb4 ab R.1 es2), .grp (rdkO xb7 rv2 (R.1).off (actsI (R.1).ar) part L2), .blk b14 44 [.int .i64 5, .int .i64 n, .int .i64 m, .int .i64 i, .int .i64 t, .slice Ac cf.length cc, .slice Ad dt.length cd, .slice Ab b.length cb, .slice Ak ks.length ck]]) (by kernel_rfl)
          replace hH := (hH.sublist (.cons_cons _ (.cons_cons _ (List.nil_sublist _))))
          replace hH : Hp w w35 _ _ [.grp (dskO db3 mb4 ab R.1 es2), .grp (rdkO xb7 rv2 (R.1).off (actsI (R.1).ar) part L2)] := hH
          exact ⟨inv_rem hI hr hR2 hL2, hH⟩
        try simp only [beq_eq_false_iff_ne, ne_eq] at hc8
        have hd5 := hc8
        refine sw_skip ?_
        refine bkN ?_
        refine cut_end (D, es, ab, rv, part, L, 0) (Sub.of_eq (by kernel_rfl)) ?_
        replace hH := (hH.sublist (.cons_cons _ (.cons_cons _ (List.nil_sublist _))))
        replace hH : Hp w w16 _ _ [.grp (dskO db3 mb4 ab D es), .grp (rdkO xb7 rv (D).off (actsI (D).ar) part L)] := hH
        exact ⟨inv_same hI (Nat.le_refl _) (by omega), hH⟩
      clear hH
      rintro ⟨Dn, esn, abn, rvn, pn, Ln, er⟩ w37 ⟨hIn, hH⟩
      refine sw_keep [(0, .slice Aa ac.length ca), (4, Pp db3 0), (5, Pp xb7 0), (6, Ni k), (8, errV er), (9, Ni er)] (by kernel_rfl) ?_
      refine sw_sr ?_
      refine gl_ops 1 [(0, .slice Aa ac.length ca), (4, Pp db3 0), (5, Pp xb7 0), (6, Ni k), (8, errV er), (9, Ni er), (94, Pp db3 0)] (by kernel_rfl) ?_
      replace hH : Hp w w37 _ _ ([.grp (dskO db3 mb4 abn Dn esn)] ++ [.grp (rdkO xb7 rvn (Dn).off (actsI (Dn).ar) pn Ln)]) := hH
      refine gl_st (st_call rfl rfl rfl (by kernel_rfl) rfl (Load_ct db3 mb4 abn Dn esn 140737488355328 _ hH.mine hIn.rep hIn.ar hIn.good (by omega)) ?_)
      rintro _ w42 ⟨v38, v39, rfl, hF43⟩
      replace hH := hH.turns hF43; clear hF43
      replace hH : Hp w w42 _ _ [.grp (rdkO xb7 rvn (Dn).off (actsI (Dn).ar) pn Ln), .grp (dskO db3 mb4 abn Dn esn), .row v38 5 1 ((loadD Dn).1.conf.length) (bv (loadD Dn).1.conf), .row v39 5 1 ((loadD Dn).1.data.length) (bv (loadD Dn).1.data)] := hH
      obtain ⟨A44, c45, rfl, hl46, hm47⟩ := hH.row_form 2 rfl
      obtain ⟨A48, c49, rfl, hl50, hm51⟩ := hH.row_form 3 rfl
      refine gl_ops 4 [(0, .slice Aa ac.length ca), (4, Pp db3 0), (5, Pp xb7 0), (6, Ni k), (8, errV er), (9, Ni er), (96, .agg #[.int .i64 ((loadD Dn).1.idx), .int .i64 ((loadD Dn).1.term), .slice A44 ((loadD Dn).1.conf.length) c45, .slice A48 ((loadD Dn).1.data.length) c49]), (97, .bool ((loadD Dn).2.1)), (98, errV ((loadD Dn).2.2))] (by kernel_rfl) ?_
      refine gl_st (st_allocH rfl rfl rfl (cs := [.int .i64 0, .int .i64 0, .slice none 0 0, .slice none 0 0]) (by kernel_rfl) hH ?_)
      clear hH; intro b52 w53 hH
      refine gl_st (st_storeKA (vs := [.int .i64 ((loadD Dn).1.idx), .int .i64 ((loadD Dn).1.term), .slice A44 ((loadD Dn).1.conf.length) c45, .slice A48 ((loadD Dn).1.data.length) c49]) 4 rfl rfl rfl hH rfl rfl (by kernel_rfl) (by kernel_rfl) rfl (by simp) [.int .i64 ((loadD Dn).1.idx), .int .i64 ((loadD Dn).1.term), .slice A44 ((loadD Dn).1.conf.length) c45, .slice A48 ((loadD Dn).1.data.length) c49] rfl ?_)
      clear hH; intro w54 hH
      refine gl_ops 2 [(0, .slice Aa ac.length ca), (4, Pp db3 0), (5, Pp xb7 0), (6, Ni k), (8, errV er), (9, Ni er), (10, Pp b52 0), (11, .bool ((loadD Dn).2.1)), (12, errV ((loadD Dn).2.2))] (by kernel_rfl) ?_
      refine gl_dn rfl ?_
      refine sw_sr ?_
      refine gl_ops 1 [(0, .slice Aa ac.length ca), (4, Pp db3 0), (5, Pp xb7 0), (6, Ni k), (8, errV er), (9, Ni er), (10, Pp b52 0), (11, .bool ((loadD Dn).2.1)), (12, errV ((loadD Dn).2.2)), (100, Pp xb7 0)] (by kernel_rfl) ?_
      replace hH : Hp w w54 _ _ ([.grp (rdkO xb7 rvn (Dn).off (actsI (Dn).ar) pn Ln)] ++ [.grp (dskO db3 mb4 abn Dn esn), .row (.slice A44 ((loadD Dn).1.conf.length) c45) 5 1 ((loadD Dn).1.conf.length) (bv (loadD Dn).1.conf), .row (.slice A48 ((loadD Dn).1.data.length) c49) 5 1 ((loadD Dn).1.data.length) (bv (loadD Dn).1.data), .blk b52 24 [.int .i64 ((loadD Dn).1.idx), .int .i64 ((loadD Dn).1.term), .slice A44 ((loadD Dn).1.conf.length) c45, .slice A48 ((loadD Dn).1.data.length) c49]]) := hH
      refine gl_st (st_call rfl rfl rfl (by kernel_rfl) rfl (RLoad_ct xb7 _ Dn pn Ln 140737488355328 _ hH.mine hIn.fst hIn.good (by omega)) ?_)
      rintro _ w59 ⟨v55, v56, rfl, hF60⟩
      replace hH := hH.turns hF60; clear hF60
      replace hH : Hp w w59 _ _ [.grp (dskO db3 mb4 abn Dn esn), .row (.slice A44 ((loadD Dn).1.conf.length) c45) 5 1 ((loadD Dn).1.conf.length) (bv (loadD Dn).1.conf), .row (.slice A48 ((loadD Dn).1.data.length) c49) 5 1 ((loadD Dn).1.data.length) (bv (loadD Dn).1.data), .blk b52 24 [.int .i64 ((loadD Dn).1.idx), .int .i64 ((loadD Dn).1.term), .slice A44 ((loadD Dn).1.conf.length) c45, .slice A48 ((loadD Dn).1.data.length) c49], .grp (rdkO xb7 rvn (Dn).off (actsI (Dn).ar) pn Ln), .row v55 5 1 ((loadD Dn).1.conf.length) (bv (loadD Dn).1.conf), .row v56 5 1 ((loadD Dn).1.data.length) (bv (loadD Dn).1.data)] := hH
      obtain ⟨A61, c62, rfl, hl63, hm64⟩ := hH.row_form 5 rfl
      obtain ⟨A65, c66, rfl, hl67, hm68⟩ := hH.row_form 6 rfl
      replace hH : Hp w w59 _ _ [.grp (dskO db3 mb4 abn Dn esn), .row (.slice A44 ((loadD Dn).1.conf.length) c45) 5 1 ((loadD Dn).1.conf.length) (bv (loadD Dn).1.conf), .row (.slice A48 ((loadD Dn).1.data.length) c49) 5 1 ((loadD Dn).1.data.length) (bv (loadD Dn).1.data), .blk b52 24 [.int .i64 ((loadD Dn).1.idx), .int .i64 ((loadD Dn).1.term), .slice A44 ((loadD Dn).1.conf.length) c45, .slice A48 ((loadD Dn).1.data.length) c49], .grp (rdkO xb7 rvn (Dn).off (actsI (Dn).ar) pn Ln), .row (.slice A61 ((loadD Dn).1.conf.length) c62) 5 1 ((loadD Dn).1.conf.length) (bv (loadD Dn).1.conf), .row (.slice A65 ((loadD Dn).1.data.length) c66) 5 1 ((loadD Dn).1.data.length) (bv (loadD Dn).1.data)] := hH
      refine gl_ops 4 [(0, .slice Aa ac.length ca), (4, Pp db3 0), (5, Pp xb7 0), (6, Ni k), (8, errV er), (9, Ni er), (10, Pp b52 0), (11, .bool ((loadD Dn).2.1)), (12, errV ((loadD Dn).2.2)), (102, .agg #[.int .i64 ((loadD Dn).1.idx), .int .i64 ((loadD Dn).1.term), .slice A61 ((loadD Dn).1.conf.length) c62, .slice A65 ((loadD Dn).1.data.length) c66]), (103, .bool ((loadD Dn).2.1)), (104, Ni ((loadD Dn).2.2))] (by kernel_rfl) ?_
      refine gl_st (st_allocH rfl rfl rfl (cs := [.int .i64 0, .int .i64 0, .slice none 0 0, .slice none 0 0]) (by kernel_rfl) hH ?_)
      clear hH; intro b69 w70 hH
      replace hH : Hp w w70 _ _ [.grp (dskO db3 mb4 abn Dn esn), .row (.slice A44 ((loadD Dn).1.conf.length) c45) 5 1 ((loadD Dn).1.conf.length) (bv (loadD Dn).1.conf), .row (.slice A48 ((loadD Dn).1.data.length) c49) 5 1 ((loadD Dn).1.data.length) (bv (loadD Dn).1.data), .blk b52 24 [.int .i64 ((loadD Dn).1.idx), .int .i64 ((loadD Dn).1.term), .slice A44 ((loadD Dn).1.conf.length) c45, .slice A48 ((loadD Dn).1.data.length) c49], .grp (rdkO xb7 rvn (Dn).off (actsI (Dn).ar) pn Ln), .row (.slice A61 ((loadD Dn).1.conf.length) c62) 5 1 ((loadD Dn).1.conf.length) (bv (loadD Dn).1.conf), .row (.slice A65 ((loadD Dn).1.data.length) c66) 5 1 ((loadD Dn).1.data.length) (bv (loadD Dn).1.data), .blk b69 24 [.int .i64 0, .int .i64 0, .slice none 0 0, .slice none 0 0]] := hH
      refine gl_st (st_storeKA (vs := [.int .i64 ((loadD Dn).1.idx), .int .i64 ((loadD Dn).1.term), .slice A61 ((loadD Dn).1.conf.length) c62, .slice A65 ((loadD Dn).1.data.length) c66]) 7 rfl rfl rfl hH rfl rfl (by kernel_rfl) (by kernel_rfl) rfl (by simp) [.int .i64 ((loadD Dn).1.idx), .int .i64 ((loadD Dn).1.term), .slice A61 ((loadD Dn).1.conf.length) c62, .slice A65 ((loadD Dn).1.data.length) c66] rfl ?_)
      clear hH; intro w71 hH
      replace hH : Hp w w71 _ _ [.grp (dskO db3 mb4 abn Dn esn), .row (.slice A44 ((loadD Dn).1.conf.length) c45) 5 1 ((loadD Dn).1.conf.length) (bv (loadD Dn).1.conf), .row (.slice A48 ((loadD Dn).1.data.length) c49) 5 1 ((loadD Dn).1.data.length) (bv (loadD Dn).1.data), .blk b52 24 [.int .i64 ((loadD Dn).1.idx), .int .i64 ((loadD Dn).1.term), .slice A44 ((loadD Dn).1.conf.length) c45, .slice A48 ((loadD Dn).1.data.length) c49], .grp (rdkO xb7 rvn (Dn).off (actsI (Dn).ar) pn Ln), .row (.slice A61 ((loadD Dn).1.conf.length) c62) 5 1 ((loadD Dn).1.conf.length) (bv (loadD Dn).1.conf), .row (.slice A65 ((loadD Dn).1.data.length) c66) 5 1 ((loadD Dn).1.data.length) (bv (loadD Dn).1.data), .blk b69 24 [.int .i64 ((loadD Dn).1.idx), .int .i64 ((loadD Dn).1.term), .slice A61 ((loadD Dn).1.conf.length) c62, .slice A65 ((loadD Dn).1.data.length) c66]] := hH
      refine gl_ops 2 [(0, .slice Aa ac.length ca), (4, Pp db3 0), (5, Pp xb7 0), (6, Ni k), (8, errV er), (9, Ni er), (10, Pp b52 0), (11, .bool ((loadD Dn).2.1)), (12, errV ((loadD Dn).2.2)), (13, Pp b69 0), (14, .bool ((loadD Dn).2.1)), (15, Ni ((loadD Dn).2.2))] (by kernel_rfl) ?_
      refine gl_dn rfl ?_
      refine sw_sr ?_
      refine gl_q rfl rfl rfl (rd_loadKA (m := 4) 3 (by kernel_rfl) hH rfl rfl (by kernel_rfl) [.int .i64 ((loadD Dn).1.idx), .int .i64 ((loadD Dn).1.term), .slice A44 ((loadD Dn).1.conf.length) c45, .slice A48 ((loadD Dn).1.data.length) c49] rfl rfl) ?_
      refine gl_q rfl rfl rfl (rd_loadKA (m := 4) 7 (by kernel_rfl) hH rfl rfl (by kernel_rfl) [.int .i64 ((loadD Dn).1.idx), .int .i64 ((loadD Dn).1.term), .slice A61 ((loadD Dn).1.conf.length) c62, .slice A65 ((loadD Dn).1.data.length) c66] rfl rfl) ?_
      refine gl_st (st_call rfl rfl rfl (by kernel_rfl) rfl (Same_ct (((loadD Dn).1.idx) : Int) (((loadD Dn).1.term) : Int) (((loadD Dn).1.idx) : Int) (((loadD Dn).1.term) : Int) _ _ _ _ ((loadD Dn).1.conf) ((loadD Dn).1.data) ((loadD Dn).1.conf) ((loadD Dn).1.data) _ (rb_own hH 1 rfl) (rb_own hH 2 rfl) (rb_own hH 5 rfl) (rb_own hH 6 rfl)) ?_)
      rintro _ w72 ⟨rfl, hF73⟩
      replace hH := hH.call hF73; clear hF73
      replace hH : Hp w w72 _ _ [.grp (dskO db3 mb4 abn Dn esn), .row (.slice A44 ((loadD Dn).1.conf.length) c45) 5 1 ((loadD Dn).1.conf.length) (bv (loadD Dn).1.conf), .row (.slice A48 ((loadD Dn).1.data.length) c49) 5 1 ((loadD Dn).1.data.length) (bv (loadD Dn).1.data), .blk b52 24 [.int .i64 ((loadD Dn).1.idx), .int .i64 ((loadD Dn).1.term), .slice A44 ((loadD Dn).1.conf.length) c45, .slice A48 ((loadD Dn).1.data.length) c49], .grp (rdkO xb7 rvn (Dn).off (actsI (Dn).ar) pn Ln), .row (.slice A61 ((loadD Dn).1.conf.length) c62) 5 1 ((loadD Dn).1.conf.length) (bv (loadD Dn).1.conf), .row (.slice A65 ((loadD Dn).1.data.length) c66) 5 1 ((loadD Dn).1.data.length) (bv (loadD Dn).1.data), .blk b69 24 [.int .i64 ((loadD Dn).1.idx), .int .i64 ((loadD Dn).1.term), .slice A61 ((loadD Dn).1.conf.length) c62, .slice A65 ((loadD Dn).1.data.length) c66]] := hH
      refine gl_cv 107 (.bool true) (by rw [sameS_refl]) rfl ?_
      refine gl_ops 1 [(0, .slice Aa ac.length ca), (4, Pp db3 0), (5, Pp xb7 0), (6, Ni k), (8, errV er), (9, Ni er), (11, .bool ((loadD Dn).2.1)), (12, errV ((loadD Dn).2.2)), (14, .bool ((loadD Dn).2.1)), (15, Ni ((loadD Dn).2.2)), (16, .bool true)] (by kernel_rfl) ?_
      refine gl_dn rfl ?_
      refine sw_seq ?_
      refine sw_draw (by kernel_rfl) (fun w_ => Hp w w_ (w.cell?) [] [.row (.slice A44 ((loadD Dn).1.conf.length) c45) 5 1 ((loadD Dn).1.conf.length) (bv (loadD Dn).1.conf), .row (.slice A48 ((loadD Dn).1.data.length) c49) 5 1 ((loadD Dn).1.data.length) (bv (loadD Dn).1.data), .blk b52 24 [.int .i64 ((loadD Dn).1.idx), .int .i64 ((loadD Dn).1.term), .slice A44 ((loadD Dn).1.conf.length) c45, .slice A48 ((loadD Dn).1.data.length) c49], .grp (rdkO xb7 rvn (Dn).off (actsI (Dn).ar) pn Ln), .row (.slice A61 ((loadD Dn).1.conf.length) c62) 5 1 ((loadD Dn).1.conf.length) (bv (loadD Dn).1.conf), .row (.slice A65 ((loadD Dn).1.data.length) c66) 5 1 ((loadD Dn).1.data.length) (bv (loadD Dn).1.data), .blk b69 24 [.int .i64 ((loadD Dn).1.idx), .int .i64 ((loadD Dn).1.term), .slice A61 ((loadD Dn).1.conf.length) c62, .slice A65 ((loadD Dn).1.data.length) c66]]) ?_
      replace hH := hH.drew
      generalize { w72 with drawn := w72.drawn + 1 } = w74 at hH ⊢
      have hS9 := hH.sublist (.cons _ (.cons_cons _ (.cons_cons _ (.cons_cons _ (.cons_cons _ (.cons_cons _ (.cons_cons _ (.cons_cons _ (List.nil_sublist _)))))))))
      refine gd_pure 0 rfl (by kernel_rfl) (PQ.th (PQ.bk (PQ.th (PQ.th (PQ.bk (PQ.th PQ.body)))))) hS9 rfl rfl (Pp db3 0) (by kernel_rfl) ?_
      refine gd_pure 2 rfl (by kernel_rfl) (PQ.th (PQ.bk (PQ.th (PQ.th (PQ.bk (PQ.th PQ.body)))))) hS9 rfl rfl (Pp xb7 0) (by kernel_rfl) ?_
      refine gd_pure 3 rfl (by kernel_rfl) (PQ.th (PQ.bk (PQ.th (PQ.th (PQ.bk (PQ.th PQ.body)))))) hS9 rfl rfl (Pp xb7 0) (by kernel_rfl) ?_
      refine gd_keep [(0, .slice Aa ac.length ca), (4, Pp db3 0), (5, Pp xb7 0), (6, Ni k), (8, errV er), (9, Ni er), (11, .bool ((loadD Dn).2.1)), (12, errV ((loadD Dn).2.2)), (14, .bool ((loadD Dn).2.1)), (15, Ni ((loadD Dn).2.2)), (16, .bool true), (108, Pp db3 0), (111, Pp xb7 0)] (by kernel_rfl) ?_
      refine gd_pure 4 rfl (by kernel_rfl) (PQ.th (PQ.bk (PQ.th (PQ.th (PQ.bk (PQ.th PQ.body)))))) hS9 rfl rfl (Pp xb7 0) (by kernel_rfl) ?_
      refine gd_q 5 rfl (by kernel_rfl) (PQ.th (PQ.bk (PQ.th (PQ.th (PQ.bk (PQ.th PQ.body)))))) hS9 rfl rfl (fun w_ hS => (rd_load (by kernel_rfl) rfl (rdk_c0 hS 3 rfl))) ?_
      replace hH : Hp w w74 _ _ ([.grp (dskO db3 mb4 abn Dn esn)] ++ [.row (.slice A44 ((loadD Dn).1.conf.length) c45) 5 1 ((loadD Dn).1.conf.length) (bv (loadD Dn).1.conf), .row (.slice A48 ((loadD Dn).1.data.length) c49) 5 1 ((loadD Dn).1.data.length) (bv (loadD Dn).1.data), .blk b52 24 [.int .i64 ((loadD Dn).1.idx), .int .i64 ((loadD Dn).1.term), .slice A44 ((loadD Dn).1.conf.length) c45, .slice A48 ((loadD Dn).1.data.length) c49], .grp (rdkO xb7 rvn (Dn).off (actsI (Dn).ar) pn Ln), .row (.slice A61 ((loadD Dn).1.conf.length) c62) 5 1 ((loadD Dn).1.conf.length) (bv (loadD Dn).1.conf), .row (.slice A65 ((loadD Dn).1.data.length) c66) 5 1 ((loadD Dn).1.data.length) (bv (loadD Dn).1.data), .blk b69 24 [.int .i64 ((loadD Dn).1.idx), .int .i64 ((loadD Dn).1.term), .slice A61 ((loadD Dn).1.conf.length) c62, .slice A65 ((loadD Dn).1.data.length) c66]]) := hH
      refine gd_st 1 (by kernel_rfl) (st_call rfl rfl rfl (by kernel_rfl) rfl (Files_ct db3 mb4 abn Dn esn _ _ hH.mine hIn.rep hIn.good (by omega) (by have := hIn.len; omega)) ?_)
      rintro _ w80 ⟨v75, qs76, rfl, hqs77, hF81⟩
      replace hH := hH.turns hF81; clear hF81
      replace hH : Hp w w80 _ _ [.row (.slice A44 ((loadD Dn).1.conf.length) c45) 5 1 ((loadD Dn).1.conf.length) (bv (loadD Dn).1.conf), .row (.slice A48 ((loadD Dn).1.data.length) c49) 5 1 ((loadD Dn).1.data.length) (bv (loadD Dn).1.data), .blk b52 24 [.int .i64 ((loadD Dn).1.idx), .int .i64 ((loadD Dn).1.term), .slice A44 ((loadD Dn).1.conf.length) c45, .slice A48 ((loadD Dn).1.data.length) c49], .grp (rdkO xb7 rvn (Dn).off (actsI (Dn).ar) pn Ln), .row (.slice A61 ((loadD Dn).1.conf.length) c62) 5 1 ((loadD Dn).1.conf.length) (bv (loadD Dn).1.conf), .row (.slice A65 ((loadD Dn).1.data.length) c66) 5 1 ((loadD Dn).1.data.length) (bv (loadD Dn).1.data), .blk b69 24 [.int .i64 ((loadD Dn).1.idx), .int .i64 ((loadD Dn).1.term), .slice A61 ((loadD Dn).1.conf.length) c62, .slice A65 ((loadD Dn).1.data.length) c66], .grp (dskO db3 mb4 abn Dn esn), .row _ 93 3 qs76.length (rowC filC qs76), filRs qs76] := hH
      obtain ⟨A82, c83, rfl, hl84, hm85⟩ := hH.row_form 8 rfl
      replace hH : Hp w w80 _ _ [.row (.slice A44 ((loadD Dn).1.conf.length) c45) 5 1 ((loadD Dn).1.conf.length) (bv (loadD Dn).1.conf), .row (.slice A48 ((loadD Dn).1.data.length) c49) 5 1 ((loadD Dn).1.data.length) (bv (loadD Dn).1.data), .blk b52 24 [.int .i64 ((loadD Dn).1.idx), .int .i64 ((loadD Dn).1.term), .slice A44 ((loadD Dn).1.conf.length) c45, .slice A48 ((loadD Dn).1.data.length) c49], .grp (rdkO xb7 rvn (Dn).off (actsI (Dn).ar) pn Ln), .row (.slice A61 ((loadD Dn).1.conf.length) c62) 5 1 ((loadD Dn).1.conf.length) (bv (loadD Dn).1.conf), .row (.slice A65 ((loadD Dn).1.data.length) c66) 5 1 ((loadD Dn).1.data.length) (bv (loadD Dn).1.data), .blk b69 24 [.int .i64 ((loadD Dn).1.idx), .int .i64 ((loadD Dn).1.term), .slice A61 ((loadD Dn).1.conf.length) c62, .slice A65 ((loadD Dn).1.data.length) c66], .grp (dskO db3 mb4 abn Dn esn), .row (.slice A82 qs76.length c83) 93 3 qs76.length (rowC filC qs76), filRs qs76] := hH
      replace hS9 := hH.sublist (.cons_cons _ (.cons_cons _ (.cons_cons _ (.cons_cons _ (.cons_cons _ (.cons_cons _ (.cons_cons _ (List.nil_sublist _))))))))
      refine ⟨hS9, ?_⟩
      refine gd_keep [(0, .slice Aa ac.length ca), (4, Pp db3 0), (5, Pp xb7 0), (6, Ni k), (8, errV er), (9, Ni er), (11, .bool ((loadD Dn).2.1)), (12, errV ((loadD Dn).2.2)), (14, .bool ((loadD Dn).2.1)), (15, Ni ((loadD Dn).2.2)), (16, .bool true), (109, .slice A82 qs76.length c83), (113, rvn)] (by kernel_rfl) ?_
      refine gd_st 6 (by kernel_rfl) (st_call rfl rfl rfl (by kernel_rfl) rfl (Same18_ct _ _ qs76 Ln _ (hH.row_reads 8 rfl) (rdk_rw hH 3 rfl) (rs_rbs hH 9 rfl) (rdk_rbs hH 3 rfl)) ?_)
      rintro _ w88 ⟨bS86, rfl, hbS87, hF89⟩
      replace hH := hH.call hF89; clear hF89
      have e9 : bS86 = true := hbS87.2 (hqs77.trans hIn.fst.symm)
      subst e9
      replace hH : Hp w w88 _ _ [.row (.slice A44 ((loadD Dn).1.conf.length) c45) 5 1 ((loadD Dn).1.conf.length) (bv (loadD Dn).1.conf), .row (.slice A48 ((loadD Dn).1.data.length) c49) 5 1 ((loadD Dn).1.data.length) (bv (loadD Dn).1.data), .blk b52 24 [.int .i64 ((loadD Dn).1.idx), .int .i64 ((loadD Dn).1.term), .slice A44 ((loadD Dn).1.conf.length) c45, .slice A48 ((loadD Dn).1.data.length) c49], .grp (rdkO xb7 rvn (Dn).off (actsI (Dn).ar) pn Ln), .row (.slice A61 ((loadD Dn).1.conf.length) c62) 5 1 ((loadD Dn).1.conf.length) (bv (loadD Dn).1.conf), .row (.slice A65 ((loadD Dn).1.data.length) c66) 5 1 ((loadD Dn).1.data.length) (bv (loadD Dn).1.data), .blk b69 24 [.int .i64 ((loadD Dn).1.idx), .int .i64 ((loadD Dn).1.term), .slice A61 ((loadD Dn).1.conf.length) c62, .slice A65 ((loadD Dn).1.data.length) c66], .grp (dskO db3 mb4 abn Dn esn), .row (.slice A82 qs76.length c83) 93 3 qs76.length (rowC filC qs76), filRs qs76] := hH
      replace hS9 := hH.sublist (.cons_cons _ (.cons_cons _ (.cons_cons _ (.cons_cons _ (.cons_cons _ (.cons_cons _ (.cons_cons _ (List.nil_sublist _))))))))
      refine ⟨hS9, ?_⟩
      refine gd_keep [(0, .slice Aa ac.length ca), (4, Pp db3 0), (5, Pp xb7 0), (6, Ni k), (8, errV er), (9, Ni er), (11, .bool ((loadD Dn).2.1)), (12, errV ((loadD Dn).2.2)), (14, .bool ((loadD Dn).2.1)), (15, Ni ((loadD Dn).2.2)), (16, .bool true), (114, .bool true)] (by kernel_rfl) ?_
      refine gd_pure 7 rfl (by kernel_rfl) (PQ.th (PQ.bk (PQ.th (PQ.th (PQ.bk (PQ.th PQ.body)))))) hS9 rfl rfl (.bool true) (by kernel_rfl) ?_
      refine gd_done (by kernel_rfl) ?_
      refine at_sub [(0, .slice Aa ac.length ca), (4, Pp db3 0), (5, Pp xb7 0), (6, Ni k), (8, errV er), (9, Ni er), (11, .bool ((loadD Dn).2.1)), (12, errV ((loadD Dn).2.2)), (14, .bool ((loadD Dn).2.1)), (15, Ni ((loadD Dn).2.2)), (16, .bool true), (17, .bool true)] (Sub.of_eq (by kernel_rfl)) ?_
      refine sw_next ?_
      refine sw_sr ?_
      refine gl_ops 10 [(0, .slice Aa ac.length ca), (4, Pp db3 0), (5, Pp xb7 0), (6, Ni k), (8, errV er), (9, Ni er), (12, errV ((loadD Dn).2.2)), (15, Ni ((loadD Dn).2.2)), (121, .bool false), (124, .bool (((loadD Dn).2.1) != ((loadD Dn).2.1)))] (by kernel_rfl) ?_
      refine gl_cv 124 (.bool false) (by rw [bne_self_eq_false]) rfl ?_
      refine gl_ops 3 [(0, .slice Aa ac.length ca), (4, Pp db3 0), (5, Pp xb7 0), (6, Ni k), (9, Ni er), (12, errV ((loadD Dn).2.2)), (15, Ni ((loadD Dn).2.2)), (126, .bool false), (127, errV er)] (by kernel_rfl) ?_
      refine gl_st (st_call rfl rfl rfl (by kernel_rfl) rfl (Code_ct er _ (hH.zin _ _ hG)) ?_)
      rintro _ w90 ⟨rfl, hF91⟩
      replace hH := hH.call hF91; clear hF91
      replace hH : Hp w w90 _ _ [.row (.slice A44 ((loadD Dn).1.conf.length) c45) 5 1 ((loadD Dn).1.conf.length) (bv (loadD Dn).1.conf), .row (.slice A48 ((loadD Dn).1.data.length) c49) 5 1 ((loadD Dn).1.data.length) (bv (loadD Dn).1.data), .blk b52 24 [.int .i64 ((loadD Dn).1.idx), .int .i64 ((loadD Dn).1.term), .slice A44 ((loadD Dn).1.conf.length) c45, .slice A48 ((loadD Dn).1.data.length) c49], .grp (rdkO xb7 rvn (Dn).off (actsI (Dn).ar) pn Ln), .row (.slice A61 ((loadD Dn).1.conf.length) c62) 5 1 ((loadD Dn).1.conf.length) (bv (loadD Dn).1.conf), .row (.slice A65 ((loadD Dn).1.data.length) c66) 5 1 ((loadD Dn).1.data.length) (bv (loadD Dn).1.data), .blk b69 24 [.int .i64 ((loadD Dn).1.idx), .int .i64 ((loadD Dn).1.term), .slice A61 ((loadD Dn).1.conf.length) c62, .slice A65 ((loadD Dn).1.data.length) c66], .grp (dskO db3 mb4 abn Dn esn), .row (.slice A82 qs76.length c83) 93 3 qs76.length (rowC filC qs76), filRs qs76] := hH
      refine gl_ops 2 [(0, .slice Aa ac.length ca), (4, Pp db3 0), (5, Pp xb7 0), (6, Ni k), (12, errV ((loadD Dn).2.2)), (15, Ni ((loadD Dn).2.2)), (126, .bool false), (130, .bool (((er : Nat) : Int) != ((er : Nat) : Int)))] (by kernel_rfl) ?_
      refine gl_cv 130 (.bool false) (by rw [bne_self_eq_false]) rfl ?_
      refine gl_ops 3 [(0, .slice Aa ac.length ca), (4, Pp db3 0), (5, Pp xb7 0), (6, Ni k), (15, Ni ((loadD Dn).2.2)), (132, .bool false), (133, errV ((loadD Dn).2.2))] (by kernel_rfl) ?_
      refine gl_st (st_call rfl rfl rfl (by kernel_rfl) rfl (Code_ct ((loadD Dn).2.2) _ (hH.zin _ _ hG)) ?_)
      rintro _ w92 ⟨rfl, hF93⟩
      replace hH := hH.call hF93; clear hF93
      replace hH : Hp w w92 _ _ [.row (.slice A44 ((loadD Dn).1.conf.length) c45) 5 1 ((loadD Dn).1.conf.length) (bv (loadD Dn).1.conf), .row (.slice A48 ((loadD Dn).1.data.length) c49) 5 1 ((loadD Dn).1.data.length) (bv (loadD Dn).1.data), .blk b52 24 [.int .i64 ((loadD Dn).1.idx), .int .i64 ((loadD Dn).1.term), .slice A44 ((loadD Dn).1.conf.length) c45, .slice A48 ((loadD Dn).1.data.length) c49], .grp (rdkO xb7 rvn (Dn).off (actsI (Dn).ar) pn Ln), .row (.slice A61 ((loadD Dn).1.conf.length) c62) 5 1 ((loadD Dn).1.conf.length) (bv (loadD Dn).1.conf), .row (.slice A65 ((loadD Dn).1.data.length) c66) 5 1 ((loadD Dn).1.data.length) (bv (loadD Dn).1.data), .blk b69 24 [.int .i64 ((loadD Dn).1.idx), .int .i64 ((loadD Dn).1.term), .slice A61 ((loadD Dn).1.conf.length) c62, .slice A65 ((loadD Dn).1.data.length) c66], .grp (dskO db3 mb4 abn Dn esn), .row (.slice A82 qs76.length c83) 93 3 qs76.length (rowC filC qs76), filRs qs76] := hH
      refine gl_ops 2 [(0, .slice Aa ac.length ca), (4, Pp db3 0), (5, Pp xb7 0), (6, Ni k), (132, .bool false), (136, .bool ((((loadD Dn).2.2 : Nat) : Int) != (((loadD Dn).2.2 : Nat) : Int)))] (by kernel_rfl) ?_
      refine gl_cv 136 (.bool false) (by rw [bne_self_eq_false]) rfl ?_
      refine gl_ops 1 [(0, .slice Aa ac.length ca), (4, Pp db3 0), (5, Pp xb7 0), (6, Ni k), (137, .bool false)] (by kernel_rfl) ?_
      refine gl_dn rfl ?_
      refine sw_false rfl rfl ?_
      refine sw_skip ?_
      refine bkN ?_
      refine sw_next ?_
      refine sw_region ?_
      refine gl_ops 2 [(0, .slice Aa ac.length ca), (4, Pp db3 0), (5, Pp xb7 0), (36, .int .i64 (IntKind.i64.wrap (((k : Nat) : Int) + 1)))] (by kernel_rfl) ?_
      refine gl_cv 36 (Ni (k + 1)) (cv_i64 (by omega)) rfl ?_
      refine gl_ops 1 [(0, .slice Aa ac.length ca), (4, Pp db3 0), (5, Pp xb7 0), (6, Ni (k + 1))] (by kernel_rfl) ?_
      refine gl_done rfl ?_
      refine rnd_end (g := (k, D, es, ab, rv, part, L)) (k + 1, Dn, esn, abn, rvn, pn, Ln) (by kernel_rfl) ?_ ?_
      replace hH := hH.pick [7, 3, 0, 1, 2, 4, 5, 6, 8, 9] (by kernel_rfl) (os' := [.grp (dskO db3 mb4 abn Dn esn), .grp (rdkO xb7 rvn (Dn).off (actsI (Dn).ar) pn Ln), .row (.slice A44 ((loadD Dn).1.conf.length) c45) 5 1 ((loadD Dn).1.conf.length) (bv (loadD Dn).1.conf), .row (.slice A48 ((loadD Dn).1.data.length) c49) 5 1 ((loadD Dn).1.data.length) (bv (loadD Dn).1.data), .blk b52 24 [.int .i64 ((loadD Dn).1.idx), .int .i64 ((loadD Dn).1.term), .slice A44 ((loadD Dn).1.conf.length) c45, .slice A48 ((loadD Dn).1.data.length) c49], .row (.slice A61 ((loadD Dn).1.conf.length) c62) 5 1 ((loadD Dn).1.conf.length) (bv (loadD Dn).1.conf), .row (.slice A65 ((loadD Dn).1.data.length) c66) 5 1 ((loadD Dn).1.data.length) (bv (loadD Dn).1.data), .blk b69 24 [.int .i64 ((loadD Dn).1.idx), .int .i64 ((loadD Dn).1.term), .slice A61 ((loadD Dn).1.conf.length) c62, .slice A65 ((loadD Dn).1.data.length) c66], .row (.slice A82 qs76.length c83) 93 3 qs76.length (rowC filC qs76), filRs qs76]) (by kernel_rfl)
      replace hH := (hH.sublist (.cons_cons _ (.cons_cons _ (List.nil_sublist _))))
      replace hH : Hp w w92 _ _ [.grp (dskO db3 mb4 abn Dn esn), .grp (rdkO xb7 rvn (Dn).off (actsI (Dn).ar) pn Ln)] := hH
      · exact ⟨by omega, by omega, hIn, hH⟩
      · show ac.length - (k + 1) < ac.length - k; omega
    try simp only [decide_eq_false_iff_not, Int.not_lt, Int.not_le] at hc3
    refine sw_exit ?_
    refine thX ?_
    refine thX ?_
    refine bkH ?_
    refine sw_next ?_
    refine sw_sr ?_
    refine gl_ops 1 [(2, .bool true)] (by kernel_rfl) ?_
    refine gl_dn rfl ?_
    refine sw_ret ?_
    refine ret1 rfl rfl  ?_
    exact ⟨rfl, (hH.sublist (List.nil_sublist _)).fresh⟩
  try simp only [decide_eq_false_iff_not, Int.not_lt, Int.not_le] at hg2
  refine gl_ops 3 [(0, .slice Aa ac.length ca), (4, Pp db3 0), (5, Pp xb7 0), (6, Ni k), (34, .bool false)] (by kernel_rfl) ?_
  refine gl_dn rfl ?_
  refine sw_false rfl rfl ?_
  refine sw_exit ?_
  refine thX ?_
  refine thX ?_
  refine bkH ?_
  refine sw_next ?_
  refine sw_sr ?_
  refine gl_ops 1 [(2, .bool true)] (by kernel_rfl) ?_
  refine gl_dn rfl ?_
  refine sw_ret ?_
  refine ret1 rfl rfl  ?_
  exact ⟨rfl, (hH.sublist (List.nil_sublist _)).fresh⟩
end Go.Proofs.YtjcchjgkkplamaaGreatDoor
