/- Law 18: small, act: what they answer. -/
import Derived.Test.YtjcchjgkkplamaaDoorDisk18
import Derived.Test.YtjcchjgkkplamaaDoorSWO
set_option maxRecDepth 100000
set_option maxHeartbeats 4000000
set_option linter.unusedVariables false
set_option linter.unusedSimpArgs false
namespace Go.Proofs.YtjcchjgkkplamaaDoor
open Go.RowKit Go.SW
theorem doD_irr1 (D : Dsk) (nm p : List UInt8) (n : Int) : doD D 1 nm [] 0 = doD D 1 nm p n := by simp [doD, doF]
theorem doD_irr0 (D : Dsk) (nm p : List UInt8) (n : Int) : doD D 0 nm p 0 = doD D 0 nm p n := by simp [doD, doF]
theorem doD_irr2 (D : Dsk) (nm p : List UInt8) (n : Int) : doD D 2 nm p 0 = doD D 2 nm p n := by simp [doD, doF]
theorem doD_irr3 (D : Dsk) (nm p : List UInt8) (n : Int) : doD D 3 nm [] n = doD D 3 nm p n := by simp [doD, doF]
theorem doD_irr4 (D : Dsk) (nm p : List UInt8) (n : Int) : doD D 4 nm [] 0 = doD D 4 nm p n := by simp [doD, doF]
theorem arOk_do {D : Dsk} (h : ArOk D.ar) (kind : Nat) (nm p : List UInt8) (n : Int) : ArOk (doD D kind nm p n).1.ar := by
  unfold doD
  split
  · exact h
  split
  · exact h
  · exact arOk_cut h
theorem part_do {D : Dsk} {part : Int} (h : PartOk D.ar part) (kind : Nat) (nm p : List UInt8) (n : Int) : PartOk (doD D kind nm p n).1.ar part := by
  unfold doD
  split
  · exact h
  split
  · exact h
  · exact part_cut h
theorem len_doF (F : List Fil) (kind : Nat) (nm p : List UInt8) (n : Nat) : (doF F kind nm p n).length ≤ F.length + 1 := by
  have hs : ∀ f : Fil, (setF F f).length ≤ F.length + 1 := by
    intro f
    unfold setF
    rw [List.length_append, List.length_cons]
    have h : ∀ (F : List Fil), (F.filter (fun g => decide (g.name < f.name))).length + (F.filter (fun g => decide (f.name < g.name))).length ≤ F.length := by
      intro F
      induction F with
      | nil => simp
      | cons g F ih =>
        rw [List.filter_cons, List.filter_cons, List.length_cons]
        by_cases h1 : g.name < f.name
        · have h2 : ¬ f.name < g.name := fun h => bl_irrefl _ (bl_trans h1 h)
          simp only [h1, h2, decide_true, decide_false, if_true, Bool.false_eq_true, if_false, List.length_cons]; omega
        · by_cases h2 : f.name < g.name <;> simp only [h1, h2, decide_true, decide_false, if_true, Bool.false_eq_true, if_false, List.length_cons] <;> omega
    have := h F
    omega
  unfold doF
  split
  · exact hs _
  · exact hs _
  · exact hs _
  · exact hs _
  · unfold delF
    have := List.length_filter_le (fun g : Fil => !(g.name == nm)) F
    omega
theorem len_doD (D : Dsk) (kind : Nat) (nm p : List UInt8) (n : Int) : (doD D kind nm p n).1.fs.length ≤ D.fs.length + 1 := by
  unfold doD
  split
  · simp only; omega
  split
  · simp only; omega
  · simp only
    split
    · exact len_doF _ _ _ _ _
    · omega
theorem good_one {f : Fil} {M : Nat} (h1 : f.sure ≤ f.b.length) (h2 : f.b.length ≤ M) (h3 : f.name.length ≤ 32) : Good [f] M :=
  ⟨List.pairwise_singleton _ _, by simpa using h1, by simpa using h2, by simpa using h3⟩
theorem code_if (cu : Bool) : True := trivial

theorem Small18_ct (w : World) (hG : w.cell? ⟨0, 0, none⟩ = some errTy) :
    Fun Tryd.prog 29 [] w fun v w' => v = .bool true ∧ Fresh w w' [] := by
  have hR0 : Rep [] (⟨[], false, none⟩ : Dsk).fs := ⟨List.Pairwise.nil, List.Perm.refl _⟩
  have hA0 : ArOk none := fun a p e => by cases e
  have hG0 : Good (⟨[], false, none⟩ : Dsk).fs 100 := good_nil 100
  refine fun_of_sw Tryd.func29 rfl 65 rfl rfl ?_
  have hH := Hp.start w
  refine sw_seq ?_
  refine sw_region ?_  -- R0 law.go:12
  refine gl_ops 1 [] (by kernel_rfl) ?_
  refine gl_done rfl ?_
  refine sw_next ?_
  refine sw_seq ?_
  refine sw_region ?_  -- R1 law.go:13
  refine gl_st (st_call rfl rfl rfl (by kernel_rfl) rfl (DNew_ct _) ?_)
  rintro _ w3 ⟨db1, mb2, rfl, hF4⟩
  replace hH := hH.call hF4; clear hF4
  refine gl_ops 1 [(1, .pointer (some ⟨db1, 0, none⟩))] (by kernel_rfl) ?_
  refine gl_done rfl ?_
  refine sw_next ?_
  refine sw_seq ?_
  refine sw_seq ?_
  refine sw_region ?_  -- R2 law.go:14
  refine gl_ops 2 [(1, .pointer (some ⟨db1, 0, none⟩)), (11, .bool false)] (by kernel_rfl) ?_
  refine gl_done rfl ?_
  refine sw_next ?_
  refine sw_false rfl rfl ?_
  refine sw_skip ?_
  refine sw_next ?_
  refine sw_seq ?_
  refine sw_region ?_  -- R4 law.go:17
  refine gl_ops 1 [(1, .pointer (some ⟨db1, 0, none⟩)), (12, .pointer (some ⟨db1, 0, none⟩))] (by kernel_rfl) ?_
  refine gl_st (st_buildS (e := 5) (zv := .int .u8 0) (m := 1) (bytes := 1) rfl rfl rfl (by kernel_rfl) (by kernel_rfl) rfl (cs := [.int .u8 120, .int .u8 121]) (by kernel_rfl) rfl hH ?_)
  clear hH; intro b5 w6 hH
  replace hH := hH.row_eq 1 (l' := 2) (xs' := bv [120, 121]) rfl (rfl) (rfl)
  refine gl_st (st_convB (e := 5) 1 rfl rfl rfl (by kernel_rfl) (by kernel_rfl) hH rfl rfl ?_)
  clear hH; intro w7 hH
  obtain ⟨R8, hr9⟩ : ∃ R, doD (⟨[], false, none⟩ : Dsk) 0 [97] [120, 121] 0 = R := ⟨_, rfl⟩
  replace hH : Hp w w7 _ _ ([.grp (dskO db1 mb2 0 ⟨[], false, none⟩ [])] ++ [.mkd b5 5 (bv [120, 121])]) := hH
  refine gl_st (st_call rfl rfl rfl (by kernel_rfl) rfl (by have h9 := Append_ct db1 mb2 0 (⟨[], false, none⟩ : Dsk) [] [97] _ [120, 121] 100 _ hH.mine hR0 hA0 hG0 (by omega) (by simp) (zoff_mkd (mine := [.grp (dskO db1 mb2 0 ⟨[], false, none⟩ [])]) hH 0 rfl rfl (Nat.le_refl _) (by simp [maxLen])) (by simp); rw [hr9] at h9; exact h9) ?_)
  rintro _ w12 ⟨es10, rfl, hR11, hF13⟩
  replace hH := hH.turns hF13; clear hF13
  replace hH : Hp w w12 _ _ [.mkd b5 5 (bv [120, 121]), .grp (dskO db1 mb2 0 R8.1 es10)] := hH
  obtain rfl := hr9.symm.trans (show doD (⟨[], false, none⟩ : Dsk) 0 [97] [120, 121] 0 = ((⟨[⟨[97], [120, 121], 0⟩], false, none⟩ : Dsk), 0) by kernel_rfl)
  have R8 : Good (⟨[⟨[97], [120, 121], 0⟩], false, none⟩ : Dsk).fs 100 := good_one (by simp) (by simp) (by simp)
  refine gl_ops 1 [(1, .pointer (some ⟨db1, 0, none⟩)), (2, .nilIface)] (by kernel_rfl) ?_
  refine gl_done rfl ?_
  refine sw_next ?_
  refine sw_seq ?_
  refine sw_region ?_  -- R5 law.go:18
  obtain ⟨R14, hr15⟩ : ∃ R, doD (⟨[⟨[97], [120, 121], 0⟩], false, none⟩ : Dsk) 1 [97] [] 0 = R := ⟨_, rfl⟩
  refine gl_ops 1 [(1, .pointer (some ⟨db1, 0, none⟩)), (2, .nilIface), (16, .pointer (some ⟨db1, 0, none⟩))] (by kernel_rfl) ?_
  replace hH : Hp w w12 _ _ [.mkd b5 5 (bv [120, 121]), .grp (dskO db1 mb2 0 (⟨[⟨[97], [120, 121], 0⟩], false, none⟩ : Dsk) es10)] := hH
  replace hH := hH.pick [1, 0] (by kernel_rfl) (os' := [.grp (dskO db1 mb2 0 (⟨[⟨[97], [120, 121], 0⟩], false, none⟩ : Dsk) es10), .mkd b5 5 (bv [120, 121])]) (by kernel_rfl)
  replace hH : Hp w w12 _ _ ([.grp (dskO db1 mb2 0 (⟨[⟨[97], [120, 121], 0⟩], false, none⟩ : Dsk) es10)] ++ [.mkd b5 5 (bv [120, 121])]) := hH
  refine gl_st (st_call rfl rfl rfl (by kernel_rfl) rfl (by have h9 := Sync_ct db1 mb2 0 (⟨[⟨[97], [120, 121], 0⟩], false, none⟩ : Dsk) es10 [97] 100 _ hH.mine hR11 hA0 R8 (by omega) (by simp); rw [hr15] at h9; exact h9) ?_)
  rintro _ w18 ⟨es16, rfl, hR17, hF19⟩
  replace hH := hH.turns hF19; clear hF19
  replace hH : Hp w w18 _ _ [.mkd b5 5 (bv [120, 121]), .grp (dskO db1 mb2 0 R14.1 es16)] := hH
  obtain rfl := hr15.symm.trans (show doD (⟨[⟨[97], [120, 121], 0⟩], false, none⟩ : Dsk) 1 [97] [] 0 = ((⟨[⟨[97], [120, 121], 2⟩], false, none⟩ : Dsk), 0) by kernel_rfl)
  have R14 : Good (⟨[⟨[97], [120, 121], 2⟩], false, none⟩ : Dsk).fs 100 := good_one (by simp) (by simp) (by simp)
  refine gl_ops 1 [(1, .pointer (some ⟨db1, 0, none⟩)), (2, .nilIface), (3, .nilIface)] (by kernel_rfl) ?_
  refine gl_done rfl ?_
  refine sw_next ?_
  refine sw_seq ?_
  refine sw_region ?_  -- R6 law.go:19
  refine gl_ops 1 [(1, .pointer (some ⟨db1, 0, none⟩)), (2, .nilIface), (3, .nilIface), (18, .pointer (some ⟨db1, 0, none⟩))] (by kernel_rfl) ?_
  refine gl_st (st_buildS (e := 5) (zv := .int .u8 0) (m := 1) (bytes := 1) rfl rfl rfl (by kernel_rfl) (by kernel_rfl) rfl (cs := [.int .u8 122, .int .u8 119]) (by kernel_rfl) rfl hH ?_)
  clear hH; intro b20 w21 hH
  replace hH := hH.row_eq 2 (l' := 2) (xs' := bv [122, 119]) rfl (rfl) (rfl)
  refine gl_st (st_convB (e := 5) 2 rfl rfl rfl (by kernel_rfl) (by kernel_rfl) hH rfl rfl ?_)
  clear hH; intro w22 hH
  obtain ⟨R23, hr24⟩ : ∃ R, doD (⟨[⟨[97], [120, 121], 2⟩], false, none⟩ : Dsk) 0 [97] [122, 119] 0 = R := ⟨_, rfl⟩
  replace hH : Hp w w22 _ _ [.mkd b5 5 (bv [120, 121]), .grp (dskO db1 mb2 0 (⟨[⟨[97], [120, 121], 2⟩], false, none⟩ : Dsk) es16), .mkd b20 5 (bv [122, 119])] := hH
  replace hH := hH.pick [1, 0, 2] (by kernel_rfl) (os' := [.grp (dskO db1 mb2 0 (⟨[⟨[97], [120, 121], 2⟩], false, none⟩ : Dsk) es16), .mkd b5 5 (bv [120, 121]), .mkd b20 5 (bv [122, 119])]) (by kernel_rfl)
  replace hH : Hp w w22 _ _ ([.grp (dskO db1 mb2 0 (⟨[⟨[97], [120, 121], 2⟩], false, none⟩ : Dsk) es16)] ++ [.mkd b5 5 (bv [120, 121]), .mkd b20 5 (bv [122, 119])]) := hH
  refine gl_st (st_call rfl rfl rfl (by kernel_rfl) rfl (by have h9 := Append_ct db1 mb2 0 (⟨[⟨[97], [120, 121], 2⟩], false, none⟩ : Dsk) es16 [97] _ [122, 119] 100 _ hH.mine hR17 hA0 R14 (by omega) (by simp) (zoff_mkd (mine := [.grp (dskO db1 mb2 0 (⟨[⟨[97], [120, 121], 2⟩], false, none⟩ : Dsk) es16)]) hH 1 rfl rfl (Nat.le_refl _) (by simp [maxLen])) (by simp); rw [hr24] at h9; exact h9) ?_)
  rintro _ w27 ⟨es25, rfl, hR26, hF28⟩
  replace hH := hH.turns hF28; clear hF28
  replace hH : Hp w w27 _ _ [.mkd b5 5 (bv [120, 121]), .mkd b20 5 (bv [122, 119]), .grp (dskO db1 mb2 0 R23.1 es25)] := hH
  obtain rfl := hr24.symm.trans (show doD (⟨[⟨[97], [120, 121], 2⟩], false, none⟩ : Dsk) 0 [97] [122, 119] 0 = ((⟨[⟨[97], [120, 121, 122, 119], 2⟩], false, none⟩ : Dsk), 0) by kernel_rfl)
  have R23 : Good (⟨[⟨[97], [120, 121, 122, 119], 2⟩], false, none⟩ : Dsk).fs 100 := good_one (by simp) (by simp) (by simp)
  refine gl_ops 1 [(1, .pointer (some ⟨db1, 0, none⟩)), (2, .nilIface), (3, .nilIface), (4, .nilIface)] (by kernel_rfl) ?_
  refine gl_done rfl ?_
  refine sw_next ?_
  refine sw_seq ?_
  refine sw_region ?_  -- R7 law.go:20
  refine gl_ops 1 [(1, .pointer (some ⟨db1, 0, none⟩)), (2, .nilIface), (3, .nilIface), (4, .nilIface), (22, .pointer (some ⟨db1, 0, none⟩))] (by kernel_rfl) ?_
  refine gl_st (st_buildS (e := 3) (zv := .int .i64 0) (m := 1) (bytes := 8) rfl rfl rfl (by kernel_rfl) (by kernel_rfl) rfl (cs := [.int .i64 1]) (by kernel_rfl) rfl hH ?_)
  clear hH; intro b29 w30 hH
  replace hH := hH.row_eq 3 (l' := 1) (xs' := iv [1]) rfl (rfl) (rfl)
  replace hH : Hp w w30 _ _ [.mkd b5 5 (bv [120, 121]), .mkd b20 5 (bv [122, 119]), .grp (dskO db1 mb2 0 (⟨[⟨[97], [120, 121, 122, 119], 2⟩], false, none⟩ : Dsk) es25), .row (.slice (some ⟨b29, 0, none⟩) 1 1) 3 1 1 (iv [1])] := hH
  replace hH := hH.pick [2, 0, 1, 3] (by kernel_rfl) (os' := [.grp (dskO db1 mb2 0 (⟨[⟨[97], [120, 121, 122, 119], 2⟩], false, none⟩ : Dsk) es25), .mkd b5 5 (bv [120, 121]), .mkd b20 5 (bv [122, 119]), .row (.slice (some ⟨b29, 0, none⟩) 1 1) 3 1 1 (iv [1])]) (by kernel_rfl)
  replace hH : Hp w w30 _ _ ([.grp (dskO db1 mb2 0 (⟨[⟨[97], [120, 121, 122, 119], 2⟩], false, none⟩ : Dsk) es25)] ++ [.mkd b5 5 (bv [120, 121]), .mkd b20 5 (bv [122, 119]), .row (.slice (some ⟨b29, 0, none⟩) 1 1) 3 1 1 (iv [1])]) := hH
  refine gl_st (st_call rfl rfl rfl (by kernel_rfl) rfl (Start_ct db1 mb2 0 (⟨[⟨[97], [120, 121, 122, 119], 2⟩], false, none⟩ : Dsk) es25 _ [1] 100 _ hH.mine (zoff_row (mine := [.grp (dskO db1 mb2 0 (⟨[⟨[97], [120, 121, 122, 119], 2⟩], false, none⟩ : Dsk) es25)]) hH 2 rfl) hR26 R23 (by omega) (by simp)) ?_)
  rintro _ w33 ⟨es31, rfl, hR32, hF34⟩
  replace hH := hH.turns hF34; clear hF34
  replace hH : Hp w w33 _ _ [.mkd b5 5 (bv [120, 121]), .mkd b20 5 (bv [122, 119]), .row (.slice (some ⟨b29, 0, none⟩) 1 1) 3 1 1 (iv [1]), .grp (dskO db1 mb2 0 (startD (⟨[⟨[97], [120, 121, 122, 119], 2⟩], false, none⟩ : Dsk) [1]) es31)] := hH
  have hs7 : startD (⟨[⟨[97], [120, 121, 122, 119], 2⟩], false, none⟩ : Dsk) [1] = (⟨[⟨[97], [120, 121, 122], 3⟩], false, none⟩ : Dsk) := by kernel_rfl
  rw [hs7] at hH
  have hhR32b : Rep es31 (⟨[⟨[97], [120, 121, 122], 3⟩], false, none⟩ : Dsk).fs := by rw [← hs7]; exact hR32
  have hG7 : Good (⟨[⟨[97], [120, 121, 122], 3⟩], false, none⟩ : Dsk).fs 100 := good_one (by simp) (by simp) (by simp)
  refine gl_done rfl ?_
  refine sw_next ?_
  refine sw_seq ?_
  refine sw_region ?_  -- R8 law.go:21
  have hr8 : readD (⟨[⟨[97], [120, 121, 122], 3⟩], false, none⟩ : Dsk) [97] = ([120, 121, 122], 0) := by kernel_rfl
  refine gl_ops 1 [(1, .pointer (some ⟨db1, 0, none⟩)), (2, .nilIface), (3, .nilIface), (4, .nilIface), (26, .pointer (some ⟨db1, 0, none⟩))] (by kernel_rfl) ?_
  replace hH : Hp w w33 _ _ [.mkd b5 5 (bv [120, 121]), .mkd b20 5 (bv [122, 119]), .row (.slice (some ⟨b29, 0, none⟩) 1 1) 3 1 1 (iv [1]), .grp (dskO db1 mb2 0 (⟨[⟨[97], [120, 121, 122], 3⟩], false, none⟩ : Dsk) es31)] := hH
  replace hH := hH.pick [3, 0, 1, 2] (by kernel_rfl) (os' := [.grp (dskO db1 mb2 0 (⟨[⟨[97], [120, 121, 122], 3⟩], false, none⟩ : Dsk) es31), .mkd b5 5 (bv [120, 121]), .mkd b20 5 (bv [122, 119]), .row (.slice (some ⟨b29, 0, none⟩) 1 1) 3 1 1 (iv [1])]) (by kernel_rfl)
  replace hH : Hp w w33 _ _ ([.grp (dskO db1 mb2 0 (⟨[⟨[97], [120, 121, 122], 3⟩], false, none⟩ : Dsk) es31)] ++ [.mkd b5 5 (bv [120, 121]), .mkd b20 5 (bv [122, 119]), .row (.slice (some ⟨b29, 0, none⟩) 1 1) 3 1 1 (iv [1])]) := hH
  refine gl_st (st_call rfl rfl rfl (by kernel_rfl) rfl (Read_ct db1 mb2 0 (⟨[⟨[97], [120, 121, 122], 3⟩], false, none⟩ : Dsk) es31 [97] 100 _ hH.mine hhR32b hA0 hG7 (by omega) (by simp)) ?_)
  rintro _ w37 ⟨v35, rfl, hF38⟩
  replace hH := hH.turns hF38; clear hF38
  replace hH : Hp w w37 _ _ [.mkd b5 5 (bv [120, 121]), .mkd b20 5 (bv [122, 119]), .row (.slice (some ⟨b29, 0, none⟩) 1 1) 3 1 1 (iv [1]), .grp (dskO db1 mb2 0 (⟨[⟨[97], [120, 121, 122], 3⟩], false, none⟩ : Dsk) es31), .row _ 5 1 _ _] := hH
  rw [hr8] at hH
  replace hH : Hp w w37 _ _ [.mkd b5 5 (bv [120, 121]), .mkd b20 5 (bv [122, 119]), .row (.slice (some ⟨b29, 0, none⟩) 1 1) 3 1 1 (iv [1]), .grp (dskO db1 mb2 0 (⟨[⟨[97], [120, 121, 122], 3⟩], false, none⟩ : Dsk) es31), .row _ 5 1 3 (bv [120, 121, 122])] := hH
  obtain ⟨A39, c40, rfl, hl41, hm42⟩ := hH.row_form 4 rfl
  refine gl_ops 5 [(1, .pointer (some ⟨db1, 0, none⟩)), (2, .nilIface), (3, .nilIface), (4, .nilIface), (5, .slice A39 3 c40), (6, .nilIface)] (by kernel_rfl) ?_
  refine gl_done rfl ?_
  refine sw_next ?_
  refine sw_seq ?_
  refine sw_region ?_  -- R9 law.go:22
  refine gl_ops 1 [(1, .pointer (some ⟨db1, 0, none⟩)), (2, .nilIface), (3, .nilIface), (4, .nilIface), (5, .slice A39 3 c40), (6, .nilIface), (30, .pointer (some ⟨db1, 0, none⟩))] (by kernel_rfl) ?_
  replace hH : Hp w w37 _ _ [.mkd b5 5 (bv [120, 121]), .mkd b20 5 (bv [122, 119]), .row (.slice (some ⟨b29, 0, none⟩) 1 1) 3 1 1 (iv [1]), .grp (dskO db1 mb2 0 (⟨[⟨[97], [120, 121, 122], 3⟩], false, none⟩ : Dsk) es31), .row (.slice A39 3 c40) 5 1 3 (bv [120, 121, 122])] := hH
  replace hH := hH.pick [3, 0, 1, 2, 4] (by kernel_rfl) (os' := [.grp (dskO db1 mb2 0 (⟨[⟨[97], [120, 121, 122], 3⟩], false, none⟩ : Dsk) es31), .mkd b5 5 (bv [120, 121]), .mkd b20 5 (bv [122, 119]), .row (.slice (some ⟨b29, 0, none⟩) 1 1) 3 1 1 (iv [1]), .row (.slice A39 3 c40) 5 1 3 (bv [120, 121, 122])]) (by kernel_rfl)
  replace hH : Hp w w37 _ _ ([.grp (dskO db1 mb2 0 (⟨[⟨[97], [120, 121, 122], 3⟩], false, none⟩ : Dsk) es31)] ++ [.mkd b5 5 (bv [120, 121]), .mkd b20 5 (bv [122, 119]), .row (.slice (some ⟨b29, 0, none⟩) 1 1) 3 1 1 (iv [1]), .row (.slice A39 3 c40) 5 1 3 (bv [120, 121, 122])]) := hH
  refine gl_st (st_call rfl rfl rfl (by kernel_rfl) rfl (Arm_ct db1 mb2 0 (⟨[⟨[97], [120, 121, 122], 3⟩], false, none⟩ : Dsk) es31 0 3 _ hH.mine) ?_)
  rintro _ w44 ⟨ab43, rfl, hF45⟩
  replace hH := hH.turns hF45; clear hF45
  replace hH : Hp w w44 _ _ [.mkd b5 5 (bv [120, 121]), .mkd b20 5 (bv [122, 119]), .row (.slice (some ⟨b29, 0, none⟩) 1 1) 3 1 1 (iv [1]), .row (.slice A39 3 c40) 5 1 3 (bv [120, 121, 122]), .grp (dskO db1 mb2 ab43 (⟨[⟨[97], [120, 121, 122], 3⟩], false, some (0, 3)⟩ : Dsk) es31)] := hH
  have hA9 : ArOk (⟨[⟨[97], [120, 121, 122], 3⟩], false, some (0, 3)⟩ : Dsk).ar := by intro a p e; cases e; omega
  refine gl_done rfl ?_
  refine sw_next ?_
  refine sw_seq ?_
  refine sw_region ?_  -- R10 law.go:23
  refine gl_ops 1 [(1, .pointer (some ⟨db1, 0, none⟩)), (2, .nilIface), (3, .nilIface), (4, .nilIface), (5, .slice A39 3 c40), (6, .nilIface), (32, .pointer (some ⟨db1, 0, none⟩))] (by kernel_rfl) ?_
  refine gl_st (st_buildS (e := 5) (zv := .int .u8 0) (m := 1) (bytes := 1) rfl rfl rfl (by kernel_rfl) (by kernel_rfl) rfl (cs := [.int .u8 49, .int .u8 50, .int .u8 51, .int .u8 52, .int .u8 53]) (by kernel_rfl) rfl hH ?_)
  clear hH; intro b46 w47 hH
  replace hH := hH.row_eq 5 (l' := 5) (xs' := bv [49, 50, 51, 52, 53]) rfl (rfl) (rfl)
  refine gl_st (st_convB (e := 5) 5 rfl rfl rfl (by kernel_rfl) (by kernel_rfl) hH rfl rfl ?_)
  clear hH; intro w48 hH
  obtain ⟨R49, hr50⟩ : ∃ R, doD (⟨[⟨[97], [120, 121, 122], 3⟩], false, some (0, 3)⟩ : Dsk) 0 [97] [49, 50, 51, 52, 53] 0 = R := ⟨_, rfl⟩
  replace hH : Hp w w48 _ _ [.mkd b5 5 (bv [120, 121]), .mkd b20 5 (bv [122, 119]), .row (.slice (some ⟨b29, 0, none⟩) 1 1) 3 1 1 (iv [1]), .row (.slice A39 3 c40) 5 1 3 (bv [120, 121, 122]), .grp (dskO db1 mb2 ab43 (⟨[⟨[97], [120, 121, 122], 3⟩], false, some (0, 3)⟩ : Dsk) es31), .mkd b46 5 (bv [49, 50, 51, 52, 53])] := hH
  replace hH := hH.pick [4, 0, 1, 2, 3, 5] (by kernel_rfl) (os' := [.grp (dskO db1 mb2 ab43 (⟨[⟨[97], [120, 121, 122], 3⟩], false, some (0, 3)⟩ : Dsk) es31), .mkd b5 5 (bv [120, 121]), .mkd b20 5 (bv [122, 119]), .row (.slice (some ⟨b29, 0, none⟩) 1 1) 3 1 1 (iv [1]), .row (.slice A39 3 c40) 5 1 3 (bv [120, 121, 122]), .mkd b46 5 (bv [49, 50, 51, 52, 53])]) (by kernel_rfl)
  replace hH : Hp w w48 _ _ ([.grp (dskO db1 mb2 ab43 (⟨[⟨[97], [120, 121, 122], 3⟩], false, some (0, 3)⟩ : Dsk) es31)] ++ [.mkd b5 5 (bv [120, 121]), .mkd b20 5 (bv [122, 119]), .row (.slice (some ⟨b29, 0, none⟩) 1 1) 3 1 1 (iv [1]), .row (.slice A39 3 c40) 5 1 3 (bv [120, 121, 122]), .mkd b46 5 (bv [49, 50, 51, 52, 53])]) := hH
  refine gl_st (st_call rfl rfl rfl (by kernel_rfl) rfl (by have h9 := Append_ct db1 mb2 ab43 (⟨[⟨[97], [120, 121, 122], 3⟩], false, some (0, 3)⟩ : Dsk) es31 [97] _ [49, 50, 51, 52, 53] 100 _ hH.mine hhR32b hA9 hG7 (by omega) (by simp) (zoff_mkd (mine := [.grp (dskO db1 mb2 ab43 (⟨[⟨[97], [120, 121, 122], 3⟩], false, some (0, 3)⟩ : Dsk) es31)]) hH 4 rfl rfl (Nat.le_refl _) (by simp [maxLen])) (by simp); rw [hr50] at h9; exact h9) ?_)
  rintro _ w53 ⟨es51, rfl, hR52, hF54⟩
  replace hH := hH.turns hF54; clear hF54
  replace hH : Hp w w53 _ _ [.mkd b5 5 (bv [120, 121]), .mkd b20 5 (bv [122, 119]), .row (.slice (some ⟨b29, 0, none⟩) 1 1) 3 1 1 (iv [1]), .row (.slice A39 3 c40) 5 1 3 (bv [120, 121, 122]), .mkd b46 5 (bv [49, 50, 51, 52, 53]), .grp (dskO db1 mb2 ab43 R49.1 es51)] := hH
  obtain rfl := hr50.symm.trans (show doD (⟨[⟨[97], [120, 121, 122], 3⟩], false, some (0, 3)⟩ : Dsk) 0 [97] [49, 50, 51, 52, 53] 0 = ((⟨[⟨[97], [120, 121, 122, 49, 50, 51], 3⟩], true, none⟩ : Dsk), 80) by kernel_rfl)
  have R49 : Good (⟨[⟨[97], [120, 121, 122, 49, 50, 51], 3⟩], true, none⟩ : Dsk).fs 100 := good_one (by simp) (by simp) (by simp)
  refine gl_ops 1 [(1, .pointer (some ⟨db1, 0, none⟩)), (2, .nilIface), (3, .nilIface), (4, .nilIface), (5, .slice A39 3 c40), (6, .nilIface), (7, errV 80)] (by kernel_rfl) ?_
  refine gl_done rfl ?_
  refine sw_next ?_
  refine sw_seq ?_
  refine sw_region ?_  -- R11 law.go:24
  refine gl_ops 1 [(2, .nilIface), (3, .nilIface), (4, .nilIface), (5, .slice A39 3 c40), (6, .nilIface), (7, errV 80), (36, .pointer (some ⟨db1, 0, none⟩))] (by kernel_rfl) ?_
  replace hH : Hp w w53 _ _ [.mkd b5 5 (bv [120, 121]), .mkd b20 5 (bv [122, 119]), .row (.slice (some ⟨b29, 0, none⟩) 1 1) 3 1 1 (iv [1]), .row (.slice A39 3 c40) 5 1 3 (bv [120, 121, 122]), .mkd b46 5 (bv [49, 50, 51, 52, 53]), .grp (dskO db1 mb2 ab43 (⟨[⟨[97], [120, 121, 122, 49, 50, 51], 3⟩], true, none⟩ : Dsk) es51)] := hH
  replace hH := hH.pick [5, 0, 1, 2, 3, 4] (by kernel_rfl) (os' := [.grp (dskO db1 mb2 ab43 (⟨[⟨[97], [120, 121, 122, 49, 50, 51], 3⟩], true, none⟩ : Dsk) es51), .mkd b5 5 (bv [120, 121]), .mkd b20 5 (bv [122, 119]), .row (.slice (some ⟨b29, 0, none⟩) 1 1) 3 1 1 (iv [1]), .row (.slice A39 3 c40) 5 1 3 (bv [120, 121, 122]), .mkd b46 5 (bv [49, 50, 51, 52, 53])]) (by kernel_rfl)
  replace hH : Hp w w53 _ _ ([.grp (dskO db1 mb2 ab43 (⟨[⟨[97], [120, 121, 122, 49, 50, 51], 3⟩], true, none⟩ : Dsk) es51)] ++ [.mkd b5 5 (bv [120, 121]), .mkd b20 5 (bv [122, 119]), .row (.slice (some ⟨b29, 0, none⟩) 1 1) 3 1 1 (iv [1]), .row (.slice A39 3 c40) 5 1 3 (bv [120, 121, 122]), .mkd b46 5 (bv [49, 50, 51, 52, 53])]) := hH
  refine gl_st (st_call rfl rfl rfl (by kernel_rfl) rfl (Down_ct db1 mb2 ab43 (⟨[⟨[97], [120, 121, 122, 49, 50, 51], 3⟩], true, none⟩ : Dsk) es51 _ hH.mine) ?_)
  rintro _ w55 ⟨rfl, hF56⟩
  replace hH := hH.turns hF56; clear hF56
  replace hH : Hp w w55 _ _ [.mkd b5 5 (bv [120, 121]), .mkd b20 5 (bv [122, 119]), .row (.slice (some ⟨b29, 0, none⟩) 1 1) 3 1 1 (iv [1]), .row (.slice A39 3 c40) 5 1 3 (bv [120, 121, 122]), .mkd b46 5 (bv [49, 50, 51, 52, 53]), .grp (dskO db1 mb2 ab43 (⟨[⟨[97], [120, 121, 122, 49, 50, 51], 3⟩], true, none⟩ : Dsk) es51)] := hH
  refine gl_ops 1 [(2, .nilIface), (3, .nilIface), (4, .nilIface), (5, .slice A39 3 c40), (6, .nilIface), (7, errV 80), (8, .bool true)] (by kernel_rfl) ?_
  refine gl_done rfl ?_
  refine sw_next ?_
  refine sw_seq ?_
  refine sw_region ?_  -- R12 law.go:25
  refine gl_ops 16 [(7, errV 80), (8, .bool true), (52, .bool true), (53, .slice A39 3 c40)] (by kernel_rfl) ?_
  refine gl_q rfl rfl rfl (rd_str (e := 5) (by kernel_rfl) (by kernel_rfl) (by kernel_rfl) rfl (rb_own hH 3 rfl)) ?_
  refine gl_q rfl rfl rfl (rd_seql (by kernel_rfl) rfl rfl) ?_
  refine gl_cv 55 (.bool true) (by rfl) rfl ?_
  refine gl_ops 3 [(8, .bool true), (57, .bool true), (58, errV 80)] (by kernel_rfl) ?_
  refine gl_st (st_call rfl rfl rfl (by kernel_rfl) rfl (Code_ct 80 _ (hH.zin _ _ hG)) ?_)
  rintro _ w57 ⟨rfl, hF58⟩
  replace hH := hH.call hF58; clear hF58
  refine gl_ops 6 [(0, .bool true)] (by kernel_rfl) ?_
  refine gl_done rfl ?_
  refine sw_next ?_
  refine sw_ret ?_
  refine ret1 rfl rfl  ?_
  exact ⟨rfl, (hH.sublist (List.nil_sublist _)).fresh⟩
end Go.Proofs.YtjcchjgkkplamaaDoor
