/- Layer 18 (disk), the program's: its parts: modulo, at, cut, act; what they answer. -/
import Derived.Test.YtjcchjgkkplamaaGreatDoorDiskP
import Derived.Test.YtjcchjgkkplamaaGreatDoorCalc
set_option maxRecDepth 100000
set_option maxHeartbeats 2000000
set_option linter.unusedVariables false
set_option linter.unusedSimpArgs false
namespace Go.Proofs.YtjcchjgkkplamaaGreatDoor
open Go.RowKit Go.SW
def filO (e : PE) : List Own := [.blk e.fb 84 [e.v, .int .i64 ((e.sure : Nat) : Int)], .vw e.v 5 e.b]
def arV (ar : Option (Nat × Int)) (ab : Nat) : Value := if ar.isSome then .pointer (some ⟨ab, 0, none⟩) else .pointer none
def armO (ar : Option (Nat × Int)) (ab : Nat) : List Own :=
  match ar with
  | none => []
  | some (a, p) => [.blk ab 87 [.int .i64 ((a : Nat) : Int), .int .i64 p]]
def hdO (db mb ab : Nat) (off : Bool) (ar : Option (Nat × Int)) : Own := .blk db 70 [.map (some mb), .bool off, arV ar ab]
def filsO (es : List PE) : Own := .grp (es.map fun e => .grp (filO e))
/-- What a disk owns. -/
def dskO (db mb ab : Nat) (D : Dsk) (es : List PE) : List Own := [hdO db mb ab D.off D.ar, .smap mb (kvE es), filsO es, .grp (armO D.ar ab)]
def ArOk (ar : Option (Nat × Int)) : Prop := ∀ a p, ar = some (a, p) → a ≤ 9223372036854775807
theorem arOk_cut {D : Dsk} (h : ArOk D.ar) : ArOk (cutD D).1.ar := by
  obtain ⟨fs, off, ar⟩ := D
  intro a p e
  match ar, h with
  | none, _ => cases e
  | some (0, q), _ => cases e
  | some (b + 1, q), h =>
    have := h (b + 1) q rfl
    cases e
    omega
/-- A file's pointer, or nil. -/
def fV (es : List PE) (nm : List UInt8) : Value := match es[ixE es nm]? with | some e => .pointer (some ⟨e.fb, 0, none⟩) | none => .pointer none
theorem fV_get (es : List PE) (nm : List UInt8) : (kget (kvE es) nm).getD (.pointer none) = fV es nm := by
  unfold kget fV
  rw [kfind_kvE]
  cases es[ixE es nm]? <;> rfl
theorem fV_nil (es : List PE) (nm : List UInt8) : PNil (fV es nm) (decide (¬ ixE es nm < es.length)) := by
  unfold fV
  by_cases h : ixE es nm < es.length
  · rw [List.getElem?_eq_getElem h]; exact .inr ⟨_, rfl, by simpa using h⟩
  · rw [List.getElem?_eq_none (by omega)]; exact .inl ⟨rfl, by simpa using h⟩
def mayQ (off : Bool) (es : List PE) (nm : List UInt8) : Nat := if off = true then 80 else if nameB nm = false then 1 else if ixE es nm < es.length then 0 else 81
def atV (off : Bool) (es : List PE) (nm : List UInt8) : Value := if mayQ off es nm = 0 then fV es nm else .pointer none
theorem atV_one (pw : Bool) (es : List PE) (nm : List UInt8) : (atV pw es nm).oneCell' = true := by
  unfold atV fV
  split
  · split <;> rfl
  · rfl
theorem mayP_eq {D : Dsk} {es : List PE} (h : Rep es D.fs) (nm : List UInt8) : mayE D nm true = mayQ D.off es nm := by
  unfold mayE mayQ
  have := rep_get h nm
  by_cases hlt : ixE es nm < es.length
  · rw [List.getElem?_eq_getElem hlt] at this
    rw [← this, if_pos hlt]; simp
  · rw [List.getElem?_eq_none (by omega)] at this
    rw [← this, if_neg hlt]; simp
theorem mayE_ff {D : Dsk} {es : List PE} (h : Rep es D.fs) (nm : List UInt8) : mayE D nm false = if mayQ D.off es nm = 81 then 0 else mayQ D.off es nm := by
  rw [← mayP_eq h]
  unfold mayE
  by_cases h1 : D.off = true
  · simp [h1]
  · by_cases h2 : nameB nm = false
    · simp [h1, h2]
    · by_cases h3 : getF D.fs nm = none <;> simp [h1, h2, h3]
theorem tmod_modI (n : Int) (k : Nat) (hk : 0 < k) : (n.tmod (k : Int) + (k : Int)).tmod (k : Int) = ((modI n k : Nat) : Int) := by
  unfold modI
  have h1 : 0 ≤ n % (k : Int) := Int.emod_nonneg n (by omega)
  rw [Int.toNat_of_nonneg h1]
  have h2 : -(k : Int) < n.tmod k ∧ n.tmod k < k := by
    have a := Int.tmod_lt_of_pos n (show (0 : Int) < k by omega)
    have b := Int.lt_tmod_of_pos n (show (0 : Int) < k by omega)
    omega
  rw [Int.tmod_eq_emod_of_nonneg (by omega), Int.add_emod_right, Int.tmod_def]
  rw [show n - ↑k * n.tdiv ↑k = n + ↑k * (-(n.tdiv ↑k)) by rw [Int.mul_neg]; omega, Int.add_mul_emod_self_left]
theorem tmod2 (n : Int) : (n.tmod 2 != 0) = decide (modI n 2 = 1) := by
  unfold modI
  rw [Bool.eq_iff_iff, bne_iff_ne, decide_eq_true_eq]
  have h1 := Int.emod_add_mul_ediv n 2
  have h2 := Int.tmod_add_mul_tdiv n 2
  have h3 : -2 < n.tmod 2 ∧ n.tmod 2 < 2 := ⟨Int.lt_tmod_of_pos n (by omega), Int.tmod_lt_of_pos n (by omega)⟩
  have h4 : 0 ≤ n % 2 ∧ n % 2 < 2 := ⟨Int.emod_nonneg n (by omega), Int.emod_lt_of_pos n (by omega)⟩
  simp only [Int.cast_ofNat_Int] at *
  constructor <;> intro h <;> omega

theorem Modulo_ct (n : Int) (k : Nat) (w : World) (hk : 0 < k) (hk2 : k ≤ 2305843009213693951) :
    Fun Tryz.prog 33 [.int .i64 n, .int .i64 ((k : Nat) : Int)] w fun v w' => v = .int .i64 ((modI n k : Nat) : Int) ∧ Fresh w w' [] := by
  have h1 := Int.tmod_lt_of_pos n (show (0 : Int) < k by omega)
  have h2 := Int.lt_tmod_of_pos n (show (0 : Int) < k by omega)
  refine fun_of_sw Tryz.func33 rfl 12 rfl rfl ?_
  have hH := Hp.start w
  refine sw_sr ?_
  refine gl_ops 1 [(0, .int .i64 n), (1, Ni k)] (by kernel_rfl) ?_
  refine gl_dn rfl ?_
  refine sw_sr ?_
  refine gl_ops 2 [(1, Ni k), (5, .int .i64 n), (6, Ni k)] (by kernel_rfl) ?_
  refine gl_q rfl rfl rfl (rd_remI (a := n) (b := k) rfl rfl hk) ?_
  refine gl_ops 2 [(1, Ni k), (9, .int .i64 (IntKind.i64.wrap ((Int.tmod n ((k : Nat) : Int)) + ((k : Nat) : Int))))] (by kernel_rfl) ?_
  refine gl_cv 9 (.int .i64 ((Int.tmod n ((k : Nat) : Int)) + ((k : Nat) : Int))) (cv_i64 (by omega)) rfl ?_
  refine gl_ops 1 [(9, .int .i64 ((Int.tmod n ((k : Nat) : Int)) + ((k : Nat) : Int))), (10, Ni k)] (by kernel_rfl) ?_
  refine gl_q rfl rfl rfl (rd_remI (a := (Int.tmod n ((k : Nat) : Int) + ((k : Nat) : Int))) (b := k) rfl rfl hk) ?_
  refine gl_cv 11 (Ni (modI n k)) (by rw [tmod_modI n k hk]) rfl ?_
  refine gl_ops 1 [(4, Ni (modI n k))] (by kernel_rfl) ?_
  refine gl_dn rfl ?_
  refine sw_ret ?_
  refine ret1 rfl rfl  ?_
  exact ⟨rfl, hH.fresh⟩
theorem Cut0_ct (db ab : Nat) (M : Value) (fs : List Fil) (pw : Bool) (w : World) (hM : Mine w [.blk db 70 [M, .bool pw, arV none ab], .grp (armO none ab)]) :
    Fun Tryz.prog 75 [.pointer (some ⟨db, 0, none⟩)] w fun v w' => v = .tuple #[.int .i64 (cutD (⟨fs, pw, none⟩ : Dsk)).2.2, .bool (cutD (⟨fs, pw, none⟩ : Dsk)).2.1] ∧ Turn w w' [.blk db 70 [M, .bool pw, arV none ab], .grp (armO none ab)] [.blk db 70 [M, .bool (cutD (⟨fs, pw, none⟩ : Dsk)).1.off, arV ((cutD (⟨fs, pw, none⟩ : Dsk)).1.ar) ab], .grp (armO ((cutD (⟨fs, pw, none⟩ : Dsk)).1.ar) ab)] := by
  refine fun_of_sw Tryz.func75 rfl 42 rfl rfl ?_
  have hH : Hp w w (off w (blksOf [.blk db 70 [M, .bool pw, arV none ab], .grp (armO none ab)])) (blksOf [.blk db 70 [M, .bool pw, arV none ab], .grp (armO none ab)]) ([.blk db 70 [M, .bool pw, arV none ab]] ++ armO none ab) := ((Hp.start_mine hM).pick [1, 0] (by kernel_rfl) rfl).open_.perm List.perm_append_comm
  replace hH : Hp w w _ _ [.blk db 70 [M, .bool pw, .pointer none]] := hH
  refine sw_sr ?_
  refine gl_ops 2 [(0, Pp db 0)] (by kernel_rfl) ?_
  refine gl_dn rfl ?_
  refine sw_seq ?_
  refine sw_sr ?_
  refine gl_ops 3 [(0, Pp db 0), (7, Pp db 2)] (by kernel_rfl) ?_
  refine gl_q rfl rfl rfl (rd_loadK 0 (by kernel_rfl) hH rfl rfl rfl) ?_
  refine gl_ops 1 [(0, Pp db 0), (9, .bool true)] (by kernel_rfl) ?_
  refine gl_dn rfl ?_
  refine sw_true rfl rfl ?_
  refine sw_sr ?_
  refine gl_ops 2 [(2, .int .i64 0), (3, .bool false)] (by kernel_rfl) ?_
  refine gl_dn rfl ?_
  refine sw_ret ?_
  refine thR ?_
  refine ret2 rfl rfl rfl  ?_
  have h1 : Hp w w _ _ ([.blk db 70 [M, .bool pw, .pointer none]] ++ armO none ab) := hH
  have h2 := h1.perm List.perm_append_comm
  exact ⟨rfl, (h2.close.pick [1, 0] (by kernel_rfl) rfl).turned⟩
theorem Cut1_ct (db ab : Nat) (M : Value) (fs : List Fil) (pw : Bool) (p : Int) (w : World) (hM : Mine w [.blk db 70 [M, .bool pw, arV (some (0, p)) ab], .grp (armO (some (0, p)) ab)]) :
    Fun Tryz.prog 75 [.pointer (some ⟨db, 0, none⟩)] w fun v w' => v = .tuple #[.int .i64 (cutD (⟨fs, pw, some (0, p)⟩ : Dsk)).2.2, .bool (cutD (⟨fs, pw, some (0, p)⟩ : Dsk)).2.1] ∧ Turn w w' [.blk db 70 [M, .bool pw, arV (some (0, p)) ab], .grp (armO (some (0, p)) ab)] [.blk db 70 [M, .bool (cutD (⟨fs, pw, some (0, p)⟩ : Dsk)).1.off, arV ((cutD (⟨fs, pw, some (0, p)⟩ : Dsk)).1.ar) ab], .grp (armO ((cutD (⟨fs, pw, some (0, p)⟩ : Dsk)).1.ar) ab)] := by
  refine fun_of_sw Tryz.func75 rfl 42 rfl rfl ?_
  have hH : Hp w w (off w (blksOf [.blk db 70 [M, .bool pw, arV (some (0, p)) ab], .grp (armO (some (0, p)) ab)])) (blksOf [.blk db 70 [M, .bool pw, arV (some (0, p)) ab], .grp (armO (some (0, p)) ab)]) ([.blk db 70 [M, .bool pw, arV (some (0, p)) ab]] ++ armO (some (0, p)) ab) := ((Hp.start_mine hM).pick [1, 0] (by kernel_rfl) rfl).open_.perm List.perm_append_comm
  replace hH : Hp w w _ _ [.blk db 70 [M, .bool pw, Pp ab 0], .blk ab 87 [.int .i64 0, .int .i64 p]] := hH
  refine sw_sr ?_
  refine gl_ops 2 [(0, Pp db 0)] (by kernel_rfl) ?_
  refine gl_dn rfl ?_
  refine sw_seq ?_
  refine sw_sr ?_
  refine gl_ops 3 [(0, Pp db 0), (7, Pp db 2)] (by kernel_rfl) ?_
  refine gl_q rfl rfl rfl (rd_loadK 0 (by kernel_rfl) hH rfl rfl rfl) ?_
  refine gl_ops 1 [(0, Pp db 0), (9, .bool false)] (by kernel_rfl) ?_
  refine gl_dn rfl ?_
  refine sw_false rfl rfl ?_
  refine sw_skip ?_
  refine sw_next ?_
  refine sw_seq ?_
  refine sw_sr ?_
  refine gl_ops 3 [(0, Pp db 0), (12, Pp db 2)] (by kernel_rfl) ?_
  refine gl_q rfl rfl rfl (rd_loadK 0 (by kernel_rfl) hH rfl rfl rfl) ?_
  refine gl_ops 2 [(0, Pp db 0), (15, Pp ab 0)] (by kernel_rfl) ?_
  refine gl_q rfl rfl rfl (rd_loadK 1 (by kernel_rfl) hH rfl rfl rfl) ?_
  refine gl_ops 1 [(0, Pp db 0), (17, .bool false)] (by kernel_rfl) ?_
  refine gl_dn rfl ?_
  refine sw_false rfl rfl ?_
  refine sw_skip ?_
  refine sw_next ?_
  refine sw_sr ?_
  refine gl_ops 3 [(0, Pp db 0), (30, Pp db 2)] (by kernel_rfl) ?_
  refine gl_q rfl rfl rfl (rd_loadK 0 (by kernel_rfl) hH rfl rfl rfl) ?_
  refine gl_ops 2 [(0, Pp db 0), (33, Pp ab 1)] (by kernel_rfl) ?_
  refine gl_q rfl rfl rfl (rd_loadK 1 (by kernel_rfl) hH rfl rfl rfl) ?_
  refine gl_ops 1 [(0, Pp db 0), (4, .int .i64 p)] (by kernel_rfl) ?_
  refine gl_dn rfl ?_
  refine sw_sr ?_
  refine gl_ops 4 [(4, .int .i64 p), (36, Pp db 0), (38, Pp db 2)] (by kernel_rfl) ?_
  refine gl_st (st_storeK (v := .pointer none) 0 rfl rfl rfl hH rfl rfl rfl (by kernel_rfl) rfl (by simp) ?_)
  clear hH; intro w1 hH
  refine gl_ops 2 [(4, .int .i64 p), (40, Pp db 1)] (by kernel_rfl) ?_
  refine gl_st (st_storeK (v := .bool true) 0 rfl rfl rfl hH rfl rfl rfl (by kernel_rfl) rfl (by simp) ?_)
  clear hH; intro w2 hH
  refine gl_dn rfl ?_
  refine sw_sr ?_
  refine gl_ops 3 [(2, .int .i64 p), (3, .bool true)] (by kernel_rfl) ?_
  refine gl_dn rfl ?_
  refine sw_ret ?_
  refine ret2 rfl rfl rfl  ?_
  replace hH := (hH.sublist (.cons_cons _ (List.nil_sublist _)))
  replace hH : Hp w w2 _ _ [.blk db 70 [M, .bool true, .pointer none]] := hH
  have h1 : Hp w w2 _ _ ([.blk db 70 [M, .bool true, .pointer none]] ++ armO none ab) := hH
  have h2 := h1.perm List.perm_append_comm
  exact ⟨rfl, (h2.close.pick [1, 0] (by kernel_rfl) rfl).turned⟩
theorem Cut2_ct (db ab : Nat) (M : Value) (fs : List Fil) (pw : Bool) (a : Nat) (p : Int) (w : World) (hM : Mine w [.blk db 70 [M, .bool pw, arV (some (a + 1, p)) ab], .grp (armO (some (a + 1, p)) ab)]) (ha : a + 1 ≤ 9223372036854775807) :
    Fun Tryz.prog 75 [.pointer (some ⟨db, 0, none⟩)] w fun v w' => v = .tuple #[.int .i64 (cutD (⟨fs, pw, some (a + 1, p)⟩ : Dsk)).2.2, .bool (cutD (⟨fs, pw, some (a + 1, p)⟩ : Dsk)).2.1] ∧ Turn w w' [.blk db 70 [M, .bool pw, arV (some (a + 1, p)) ab], .grp (armO (some (a + 1, p)) ab)] [.blk db 70 [M, .bool (cutD (⟨fs, pw, some (a + 1, p)⟩ : Dsk)).1.off, arV ((cutD (⟨fs, pw, some (a + 1, p)⟩ : Dsk)).1.ar) ab], .grp (armO ((cutD (⟨fs, pw, some (a + 1, p)⟩ : Dsk)).1.ar) ab)] := by
  refine fun_of_sw Tryz.func75 rfl 42 rfl rfl ?_
  have hH : Hp w w (off w (blksOf [.blk db 70 [M, .bool pw, arV (some (a + 1, p)) ab], .grp (armO (some (a + 1, p)) ab)])) (blksOf [.blk db 70 [M, .bool pw, arV (some (a + 1, p)) ab], .grp (armO (some (a + 1, p)) ab)]) ([.blk db 70 [M, .bool pw, arV (some (a + 1, p)) ab]] ++ armO (some (a + 1, p)) ab) := ((Hp.start_mine hM).pick [1, 0] (by kernel_rfl) rfl).open_.perm List.perm_append_comm
  replace hH : Hp w w _ _ [.blk db 70 [M, .bool pw, Pp ab 0], .blk ab 87 [Ni (a + 1), .int .i64 p]] := hH
  refine sw_sr ?_
  refine gl_ops 2 [(0, Pp db 0)] (by kernel_rfl) ?_
  refine gl_dn rfl ?_
  refine sw_seq ?_
  refine sw_sr ?_
  refine gl_ops 3 [(0, Pp db 0), (7, Pp db 2)] (by kernel_rfl) ?_
  refine gl_q rfl rfl rfl (rd_loadK 0 (by kernel_rfl) hH rfl rfl rfl) ?_
  refine gl_ops 1 [(0, Pp db 0), (9, .bool false)] (by kernel_rfl) ?_
  refine gl_dn rfl ?_
  refine sw_false rfl rfl ?_
  refine sw_skip ?_
  refine sw_next ?_
  refine sw_seq ?_
  refine sw_sr ?_
  refine gl_ops 3 [(0, Pp db 0), (12, Pp db 2)] (by kernel_rfl) ?_
  refine gl_q rfl rfl rfl (rd_loadK 0 (by kernel_rfl) hH rfl rfl rfl) ?_
  refine gl_ops 2 [(0, Pp db 0), (15, Pp ab 0)] (by kernel_rfl) ?_
  refine gl_q rfl rfl rfl (rd_loadK 1 (by kernel_rfl) hH rfl rfl rfl) ?_
  refine gl_ops 1 [(0, Pp db 0), (17, .bool (decide (((a + 1 : Nat) : Int) > (0 : Int))))] (by kernel_rfl) ?_
  refine gl_dn rfl ?_
  refine sw_cond rfl rfl (fun hc2 => ?_) (fun hc2 => ?_)
  rotate_left
  · exact absurd hc2 (by simp only [decide_eq_false_iff_not, beq_eq_false_iff_ne, bne_eq_false_iff_eq, ne_eq, Decidable.not_not, Int.not_lt, Int.not_le]; omega)
  clear hc2
  refine sw_sr ?_
  refine gl_ops 3 [(20, Pp db 2)] (by kernel_rfl) ?_
  refine gl_q rfl rfl rfl (rd_loadK 0 (by kernel_rfl) hH rfl rfl rfl) ?_
  refine gl_ops 2 [(21, Pp ab 0), (23, Pp ab 0)] (by kernel_rfl) ?_
  refine gl_q rfl rfl rfl (rd_loadK 1 (by kernel_rfl) hH rfl rfl rfl) ?_
  refine gl_ops 1 [(21, Pp ab 0), (25, .int .i64 (IntKind.i64.wrap (((a + 1 : Nat) : Int) - 1)))] (by kernel_rfl) ?_
  refine gl_cv 25 (Ni a) (cv_i64 (by omega)) rfl ?_
  refine gl_ops 2 [(25, Ni a), (27, Pp ab 0)] (by kernel_rfl) ?_
  refine gl_st (st_storeK (v := Ni a) 1 rfl rfl rfl hH rfl rfl rfl (by kernel_rfl) rfl (by simp) ?_)
  clear hH; intro w1 hH
  refine gl_dn rfl ?_
  refine sw_sr ?_
  refine gl_ops 2 [(2, .int .i64 0), (3, .bool false)] (by kernel_rfl) ?_
  refine gl_dn rfl ?_
  refine sw_ret ?_
  refine thR ?_
  refine ret2 rfl rfl rfl  ?_
  have h1 : Hp w w1 _ _ ([.blk db 70 [M, .bool pw, Pp ab 0]] ++ armO (some (a, p)) ab) := hH
  have h2 := h1.perm List.perm_append_comm
  exact ⟨rfl, (h2.close.pick [1, 0] (by kernel_rfl) rfl).turned⟩
theorem Cut_ct (db ab : Nat) (M : Value) (D D2 : Dsk) (cu : Bool) (pt : Int) (w : World) (hc : cutD D = (D2, cu, pt)) (hA : ArOk D.ar) (hM : Mine w [.blk db 70 [M, .bool D.off, arV D.ar ab], .grp (armO D.ar ab)]) :
    Fun Tryz.prog 75 [.pointer (some ⟨db, 0, none⟩)] w fun v w' => v = .tuple #[.int .i64 pt, .bool cu] ∧
      Turn w w' [.blk db 70 [M, .bool D.off, arV D.ar ab], .grp (armO D.ar ab)] [.blk db 70 [M, .bool D2.off, arV D2.ar ab], .grp (armO D2.ar ab)] := by
  have h1 : cutD D = (D2, cu, pt) := hc
  have e1 : D2 = (cutD D).1 := by rw [h1]
  have e2 : cu = (cutD D).2.1 := by rw [h1]
  have e3 : pt = (cutD D).2.2 := by rw [h1]
  subst e1 e2 e3
  obtain ⟨fs, pw, ar⟩ := D
  match ar, hA, hM with
  | none, _, hM => exact Cut0_ct db ab M fs pw w hM
  | some (0, p), _, hM => exact Cut1_ct db ab M fs pw p w hM
  | some (a + 1, p), hA, hM => exact Cut2_ct db ab M fs pw a p w hM (hA _ _ rfl)

theorem At_ct (db mb : Nat) (av : Value) (pw : Bool) (es : List PE) (nm : List UInt8) (w : World) (hs : nm.length ≤ 140737488355328) (hM : Mine w [.blk db 70 [.map (some mb), .bool pw, av], .smap mb (kvE es)]) :
    Fun Tryz.prog 37 [.pointer (some ⟨db, 0, none⟩), .string (bs nm)] w fun v w' => v = .tuple #[atV pw es nm, errV (mayQ pw es nm)] ∧ Turn w w' [.blk db 70 [.map (some mb), .bool pw, av], .smap mb (kvE es)] [.blk db 70 [.map (some mb), .bool pw, av], .smap mb (kvE es)] := by
  refine fun_of_sw Tryz.func37 rfl 32 rfl rfl ?_
  have hH := Hp.start_mine hM
  refine sw_sr ?_
  refine gl_ops 2 [(0, Pp db 0), (1, .string (bs nm))] (by kernel_rfl) ?_
  refine gl_dn rfl ?_
  refine sw_seq ?_
  refine sw_block ?_
  refine sw_sr ?_
  refine gl_ops 3 [(0, Pp db 0), (1, .string (bs nm)), (9, Pp db 1)] (by kernel_rfl) ?_
  refine gl_q rfl rfl rfl (rd_loadK 0 (by kernel_rfl) hH rfl rfl rfl) ?_
  refine gl_ops 1 [(0, Pp db 0), (1, .string (bs nm)), (6, .bool pw)] (by kernel_rfl) ?_
  refine gl_dn rfl ?_
  refine sw_cond rfl rfl (fun hc1 => ?_) (fun hc1 => ?_)
  ·
    refine sw_sr ?_
    refine gl_ops 3 [(4, .pointer none), (5, .iface 37 (.int .i64 80))] (by kernel_rfl) ?_
    refine gl_dn rfl ?_
    refine sw_ret ?_
    refine bkR ?_
    refine thR ?_
    refine ret2 rfl rfl rfl  ?_
    have hm : mayQ pw es nm = 80 := by unfold mayQ; rw [if_pos hc1]
    exact ⟨by unfold atV; rw [hm]; rfl, hH.turned⟩
  refine sw_sr ?_
  refine gl_ops 1 [(0, Pp db 0), (1, .string (bs nm)), (13, .string (bs nm))] (by kernel_rfl) ?_
  refine gl_st (st_call rfl rfl rfl (by kernel_rfl) rfl (LexName_ct nm _ hs) ?_)
  rintro _ w1 ⟨rfl, hF2⟩
  replace hH := hH.call hF2; clear hF2
  refine gl_ops 2 [(0, Pp db 0), (1, .string (bs nm)), (12, .bool (!(nameB nm)))] (by kernel_rfl) ?_
  refine gl_dn rfl ?_
  refine sw_cond rfl rfl (fun hc2 => ?_) (fun hc2 => ?_)
  ·
    try simp only [Bool.not_eq_true'] at hc2
    have hbad := hc2
    refine sw_sr ?_
    refine gl_ops 3 [(4, .pointer none), (5, .iface 37 (.int .i64 1))] (by kernel_rfl) ?_
    refine gl_dn rfl ?_
    refine sw_ret ?_
    refine bkR ?_
    refine thR ?_
    refine ret2 rfl rfl rfl  ?_
    have hb : nameB nm = false := by simpa using hbad
    have hm : mayQ pw es nm = 1 := by unfold mayQ; rw [if_neg (by rw [hc1]; simp), if_pos hb]
    exact ⟨by unfold atV; rw [hm]; rfl, hH.turned⟩
  try simp only [Bool.not_eq_false'] at hc2
  have hgood := hc2
  refine sw_sr ?_
  refine gl_ops 3 [(0, Pp db 0), (1, .string (bs nm)), (20, Pp db 0)] (by kernel_rfl) ?_
  refine gl_q rfl rfl rfl (rd_loadK 0 (by kernel_rfl) hH rfl rfl rfl) ?_
  refine gl_ops 1 [(0, Pp db 0), (1, .string (bs nm)), (21, .map (some mb)), (22, .string (bs nm))] (by kernel_rfl) ?_
  refine gl_q rfl rfl rfl (rd_smget (kt := 9) (e := 82) (zv := .pointer none) 1 (by kernel_rfl) (by kernel_rfl) (by kernel_rfl) hH rfl rfl nm rfl) ?_
  refine gl_cv 23 (fV es nm) (fV_get es nm) rfl ?_
  refine gl_q rfl rfl rfl (rd_pnil_eql (by kernel_rfl) rfl rfl (fV_nil es nm)) ?_
  refine gl_ops 1 [(0, Pp db 0), (1, .string (bs nm)), (17, .bool (decide (¬ ixE es nm < es.length)))] (by kernel_rfl) ?_
  refine gl_dn rfl ?_
  refine sw_cond rfl rfl (fun hc3 => ?_) (fun hc3 => ?_)
  ·
    replace hc3 := of_decide_eq_true hc3
    refine sw_sr ?_
    refine gl_ops 3 [(4, .pointer none), (5, .iface 37 (.int .i64 81))] (by kernel_rfl) ?_
    refine gl_dn rfl ?_
    refine sw_ret ?_
    refine bkR ?_
    refine thR ?_
    refine ret2 rfl rfl rfl  ?_
    have hb : ¬ nameB nm = false := by simpa using hgood
    have hm : mayQ pw es nm = 81 := by unfold mayQ; rw [if_neg (by rw [hc1]; simp), if_neg hb, if_neg hc3]
    exact ⟨by unfold atV; rw [hm]; rfl, hH.turned⟩
  replace hc3 := Decidable.not_not.1 (of_decide_eq_false hc3)
  refine sw_skip ?_
  refine bkN ?_
  refine sw_next ?_
  refine sw_sr ?_
  refine gl_ops 3 [(1, .string (bs nm)), (28, Pp db 0)] (by kernel_rfl) ?_
  refine gl_q rfl rfl rfl (rd_loadK 0 (by kernel_rfl) hH rfl rfl rfl) ?_
  refine gl_ops 1 [(29, .map (some mb)), (30, .string (bs nm))] (by kernel_rfl) ?_
  refine gl_q rfl rfl rfl (rd_smget (kt := 9) (e := 82) (zv := .pointer none) 1 (by kernel_rfl) (by kernel_rfl) (by kernel_rfl) hH rfl rfl nm rfl) ?_
  refine gl_cv 31 (fV es nm) (fV_get es nm) rfl ?_
  refine gl_ops 2 [(4, fV es nm), (5, .nilIface)] (by kernel_rfl) ?_
  refine gl_dn rfl ?_
  refine sw_ret ?_
  refine ret2 rfl rfl rfl  ?_
  have hb : ¬ nameB nm = false := by simpa using hgood
  have hm : mayQ pw es nm = 0 := by unfold mayQ; rw [if_neg (by rw [hc1]; simp), if_neg hb, if_pos hc3]
  exact ⟨by unfold atV; rw [hm]; rfl, hH.turned⟩
theorem SClone_ct (vb : Value) (b : List UInt8) (w : World) (hb : RB w.cell? vb b) (hl : b.length ≤ 140737488355328) :
    Fun Tryz.prog 40 [vb] w fun v w' => ∃ v1, v = v1 ∧ Fresh w w' [.row v1 5 1 b.length (bv b)] := by
  obtain ⟨Ab, cb, rfl, hb1, hb2⟩ := hb.row.form
  refine fun_of_sw Tryz.func40 rfl 8 rfl rfl ?_
  have hH := Hp.start w
  refine sw_sr ?_
  refine gl_ops 1 [(0, .slice Ab b.length cb)] (by kernel_rfl) ?_
  refine gl_dn rfl ?_
  refine sw_seq ?_
  refine sw_sr ?_
  refine gl_ops 1 [(0, .slice Ab b.length cb), (3, .slice Ab b.length cb)] (by kernel_rfl) ?_
  refine gl_q rfl rfl rfl (rd_snil_eql (e := 5) (by kernel_rfl) rfl rfl) ?_
  refine gl_dn rfl ?_
  refine sw_cond rfl rfl (fun hc1 => ?_) (fun hc1 => ?_)
  ·
    refine sw_sr ?_
    refine gl_ops 1 [(2, .slice none 0 0)] (by kernel_rfl) ?_
    refine gl_dn rfl ?_
    refine sw_ret ?_
    refine thR ?_
    refine ret1 rfl rfl  ?_
    have hz : Ab = none := by simpa using hc1
    subst hz
    obtain rfl := hb.none
    exact ⟨_, rfl, (hH.nilRow 5 1).fresh⟩
  refine sw_skip ?_
  refine sw_next ?_
  refine sw_sr ?_
  refine gl_st (st_buildS0 (e := 5) (m := 1) rfl rfl rfl (by kernel_rfl) (by kernel_rfl) hH ?_)
  clear hH; intro b1 w2 hH
  refine gl_ops 1 [(5, .slice (some ⟨b1, 0, none⟩) 0 0), (6, .slice Ab b.length cb)] (by kernel_rfl) ?_
  refine gl_st (st_appH (e := 5) (zv := .int .u8 0) (m := 1) (bytes := 1) 0 rfl rfl rfl (by kernel_rfl) (by kernel_rfl) rfl (by decide) hH rfl rfl rfl (hb.row.mono hH.zin) (bv_one _) (by unfold maxLen; omega) (by omega) ?_)
  clear hH; intro v3 w4 hH
  replace hH := hH.row_eq 0 (l' := b.length) (xs' := bv b) rfl (Nat.zero_add _) (List.nil_append _)
  obtain ⟨A5, c6, rfl, hl7, hm8⟩ := hH.row_form 0 rfl
  refine gl_ops 1 [(2, .slice A5 b.length c6)] (by kernel_rfl) ?_
  refine gl_dn rfl ?_
  refine sw_ret ?_
  refine ret1 rfl rfl  ?_
  exact ⟨_, rfl, (hH.sublist (.cons_cons _ (List.nil_sublist _))).fresh⟩
theorem DActF_ct {γ : Type} (db ab : Nat) (M : Value) (D D2 : Dsk) (pt : Int) (g : FuncId) (cap : Array Value) (x : Own) (y : γ → Own) (Zp : Zone) (w : World) (hc : cutD D = (D2, false, pt)) (hA : ArOk D.ar) (hM : Mine w [.blk db 70 [M, .bool D.off, arV D.ar ab], .grp (armO D.ar ab), x]) (hZ : Zp.le (off w (blksOf [.blk db 70 [M, .bool D.off, arV D.ar ab], .grp (armO D.ar ab), x]))) (hg : callable Tryz.prog g = true)
    (hdo : ∀ w1, Mine w1 [.blk db 70 [M, .bool D2.off, arV D2.ar ab], x] → Zp.le (off w1 (blksOf [.blk db 70 [M, .bool D2.off, arV D2.ar ab], x])) → Fun Tryz.prog g cap.toList w1 fun v w' => ∃ u, v = .tuple #[] ∧ Turn w1 w' [.blk db 70 [M, .bool D2.off, arV D2.ar ab], x] [.blk db 70 [M, .bool D2.off, arV D2.ar ab], y u]) :
    Fun Tryz.prog 38 [.pointer (some ⟨db, 0, none⟩), .func (.func g) #[] cap] w fun v w' => ∃ u, v = errV 0 ∧ Turn w w' [.blk db 70 [M, .bool D.off, arV D.ar ab], .grp (armO D.ar ab), x] [.blk db 70 [M, .bool D2.off, arV D2.ar ab], .grp (armO D2.ar ab), y u] := by
  refine fun_of_sw Tryz.func38 rfl 23 rfl rfl ?_
  have hH := Hp.start_mine hM
  refine sw_sr ?_
  refine gl_ops 1 [(0, Pp db 0), (1, .func (.func g) #[] cap)] (by kernel_rfl) ?_
  refine gl_dn rfl ?_
  refine sw_sr ?_
  refine gl_ops 1 [(1, .func (.func g) #[] cap), (8, Pp db 0)] (by kernel_rfl) ?_
  replace hH : Hp w w _ _ ([.blk db 70 [M, .bool D.off, arV D.ar ab], .grp (armO D.ar ab)] ++ [x]) := hH
  refine gl_st (st_call rfl rfl rfl (by kernel_rfl) rfl (Cut_ct _ ab _ D D2 false pt _ hc hA hH.mine) ?_)
  rintro _ w1 ⟨rfl, hF2⟩
  replace hH := hH.turns hF2; clear hF2
  replace hH : Hp w w1 _ _ [x, .blk db 70 [M, .bool D2.off, arV D2.ar ab], .grp (armO D2.ar ab)] := hH
  refine gl_ops 5 [(1, .func (.func g) #[] cap), (5, .int .i64 pt), (6, .bool false)] (by kernel_rfl) ?_
  refine gl_dn rfl ?_
  refine sw_seq ?_
  refine sw_sr ?_
  refine gl_ops 7 [(1, .func (.func g) #[] cap), (6, .bool false), (18, .bool true)] (by kernel_rfl) ?_
  refine gl_dn rfl ?_
  refine sw_true rfl rfl ?_
  refine sw_region ?_
  refine gl_ops 1 [(6, .bool false), (19, .func (.func g) #[] cap)] (by kernel_rfl) ?_
  replace hH := hH.pick [1, 0, 2] (by kernel_rfl) (os' := [.blk db 70 [M, .bool D2.off, arV D2.ar ab], x] ++ [.grp (armO D2.ar ab)]) (by kernel_rfl)
  refine gl_st (st_callv rfl rfl rfl hg rfl rfl (hdo _ hH.mine (hZ.trans hH.zoff)) ?_)
  rintro _ w3 ⟨u, rfl, hF4⟩
  replace hH := hH.turns hF4; clear hF4
  replace hH : Hp w w3 _ _ [.grp (armO D2.ar ab), .blk db 70 [M, .bool D2.off, arV D2.ar ab], y u] := hH
  refine gl_done rfl ?_
  refine sw_next ?_
  refine sw_seq ?_
  refine sw_sr ?_
  refine gl_ops 1 [(21, .bool false)] (by kernel_rfl) ?_
  refine gl_dn rfl ?_
  refine sw_false rfl rfl ?_
  refine sw_skip ?_
  refine sw_next ?_
  refine sw_sr ?_
  refine gl_ops 1 [(4, .nilIface)] (by kernel_rfl) ?_
  refine gl_dn rfl ?_
  refine sw_ret ?_
  refine ret1 rfl rfl  ?_
  replace hH := hH.pick [1, 0, 2] (by kernel_rfl) (os' := [.blk db 70 [M, .bool D2.off, arV D2.ar ab], .grp (armO D2.ar ab), y u]) (by kernel_rfl)
  exact ⟨u, rfl, hH.turned⟩
theorem DActT_ct {γ : Type} (db ab : Nat) (M : Value) (D D2 : Dsk) (pt : Int) (g : FuncId) (cap : Array Value) (x : Own) (y : γ → Own) (Zp : Zone) (w : World) (hc : cutD D = (D2, true, pt)) (hA : ArOk D.ar) (hM : Mine w [.blk db 70 [M, .bool D.off, arV D.ar ab], .grp (armO D.ar ab), x]) (hZ : Zp.le (off w (blksOf [.blk db 70 [M, .bool D.off, arV D.ar ab], .grp (armO D.ar ab), x]))) (hg : callable Tryz.prog g = true)
    (hdo : ∀ w1, Mine w1 [.blk db 70 [M, .bool D2.off, arV D2.ar ab], x] → Zp.le (off w1 (blksOf [.blk db 70 [M, .bool D2.off, arV D2.ar ab], x])) → Fun Tryz.prog g cap.toList w1 fun v w' => ∃ u, v = .tuple #[] ∧ Turn w1 w' [.blk db 70 [M, .bool D2.off, arV D2.ar ab], x] [.blk db 70 [M, .bool D2.off, arV D2.ar ab], y u]) :
    Fun Tryz.prog 38 [.pointer (some ⟨db, 0, none⟩), .func (.func g) #[] cap] w fun v w' => v = errV 80 ∧ (modI pt 2 = 1 ∧ (∃ u, Turn w w' [.blk db 70 [M, .bool D.off, arV D.ar ab], .grp (armO D.ar ab), x] [.blk db 70 [M, .bool D2.off, arV D2.ar ab], .grp (armO D2.ar ab), y u]) ∨ ¬ modI pt 2 = 1 ∧ Turn w w' [.blk db 70 [M, .bool D.off, arV D.ar ab], .grp (armO D.ar ab), x] [.blk db 70 [M, .bool D2.off, arV D2.ar ab], .grp (armO D2.ar ab), x]) := by
  refine fun_of_sw Tryz.func38 rfl 23 rfl rfl ?_
  have hH := Hp.start_mine hM
  refine sw_sr ?_
  refine gl_ops 1 [(0, Pp db 0), (1, .func (.func g) #[] cap)] (by kernel_rfl) ?_
  refine gl_dn rfl ?_
  refine sw_sr ?_
  refine gl_ops 1 [(1, .func (.func g) #[] cap), (8, Pp db 0)] (by kernel_rfl) ?_
  replace hH : Hp w w _ _ ([.blk db 70 [M, .bool D.off, arV D.ar ab], .grp (armO D.ar ab)] ++ [x]) := hH
  refine gl_st (st_call rfl rfl rfl (by kernel_rfl) rfl (Cut_ct _ ab _ D D2 true pt _ hc hA hH.mine) ?_)
  rintro _ w1 ⟨rfl, hF2⟩
  replace hH := hH.turns hF2; clear hF2
  replace hH : Hp w w1 _ _ [x, .blk db 70 [M, .bool D2.off, arV D2.ar ab], .grp (armO D2.ar ab)] := hH
  refine gl_ops 5 [(1, .func (.func g) #[] cap), (5, .int .i64 pt), (6, .bool true)] (by kernel_rfl) ?_
  refine gl_dn rfl ?_
  refine sw_seq ?_
  refine sw_sr ?_
  refine gl_ops 5 [(1, .func (.func g) #[] cap), (6, .bool true), (14, .bool false), (16, .int .i64 (Int.tmod pt 2))] (by kernel_rfl) ?_
  refine gl_cv 16 (.int .i64 (Int.tmod pt 2)) (rfl) rfl ?_
  refine gl_ops 1 [(1, .func (.func g) #[] cap), (6, .bool true), (14, .bool false), (17, .bool ((Int.tmod pt 2) != (0 : Int)))] (by kernel_rfl) ?_
  refine gl_cv 17 (.bool (decide (modI pt 2 = 1))) (by rw [← tmod2]) rfl ?_
  refine gl_ops 1 [(1, .func (.func g) #[] cap), (6, .bool true), (18, .bool (decide (modI pt 2 = 1)))] (by kernel_rfl) ?_
  refine gl_dn rfl ?_
  refine sw_cond rfl rfl (fun hc1 => ?_) (fun hc1 => ?_)
  ·
    try simp only [decide_eq_true_eq] at hc1
    refine sw_region ?_
    refine gl_ops 1 [(6, .bool true), (19, .func (.func g) #[] cap)] (by kernel_rfl) ?_
    replace hH := hH.pick [1, 0, 2] (by kernel_rfl) (os' := [.blk db 70 [M, .bool D2.off, arV D2.ar ab], x] ++ [.grp (armO D2.ar ab)]) (by kernel_rfl)
    refine gl_st (st_callv rfl rfl rfl hg rfl rfl (hdo _ hH.mine (hZ.trans hH.zoff)) ?_)
    rintro _ w3 ⟨u, rfl, hF4⟩
    replace hH := hH.turns hF4; clear hF4
    replace hH : Hp w w3 _ _ [.grp (armO D2.ar ab), .blk db 70 [M, .bool D2.off, arV D2.ar ab], y u] := hH
    refine gl_done rfl ?_
    refine sw_next ?_
    refine sw_seq ?_
    refine sw_sr ?_
    refine gl_ops 1 [(21, .bool true)] (by kernel_rfl) ?_
    refine gl_dn rfl ?_
    refine sw_true rfl rfl ?_
    refine sw_sr ?_
    refine gl_ops 2 [(4, .iface 37 (.int .i64 80))] (by kernel_rfl) ?_
    refine gl_dn rfl ?_
    refine sw_ret ?_
    refine thR ?_
    refine ret1 rfl rfl  ?_
    replace hH := hH.pick [1, 0, 2] (by kernel_rfl) (os' := [.blk db 70 [M, .bool D2.off, arV D2.ar ab], .grp (armO D2.ar ab), y u]) (by kernel_rfl)
    exact ⟨rfl, .inl ⟨hc1, u, hH.turned⟩⟩
  try simp only [decide_eq_false_iff_not, Int.not_lt, Int.not_le] at hc1
  refine sw_skip ?_
  refine sw_next ?_
  refine sw_seq ?_
  refine sw_sr ?_
  refine gl_ops 1 [(21, .bool true)] (by kernel_rfl) ?_
  refine gl_dn rfl ?_
  refine sw_true rfl rfl ?_
  refine sw_sr ?_
  refine gl_ops 2 [(4, .iface 37 (.int .i64 80))] (by kernel_rfl) ?_
  refine gl_dn rfl ?_
  refine sw_ret ?_
  refine thR ?_
  refine ret1 rfl rfl  ?_
  replace hH := hH.pick [1, 2, 0] (by kernel_rfl) (os' := [.blk db 70 [M, .bool D2.off, arV D2.ar ab], .grp (armO D2.ar ab), x]) (by kernel_rfl)
  exact ⟨rfl, .inr ⟨hc1, hH.turned⟩⟩
theorem DAct_ct {γ : Type} (db ab : Nat) (M : Value) (D D2 : Dsk) (cu : Bool) (pt : Int) (g : FuncId) (cap : Array Value) (x : Own) (y : γ → Own) (Zp : Zone) (w : World) (hc : cutD D = (D2, cu, pt)) (hA : ArOk D.ar) (hM : Mine w [.blk db 70 [M, .bool D.off, arV D.ar ab], .grp (armO D.ar ab), x]) (hZ : Zp.le (off w (blksOf [.blk db 70 [M, .bool D.off, arV D.ar ab], .grp (armO D.ar ab), x]))) (hg : callable Tryz.prog g = true)
    (hdo : ∀ w1, Mine w1 [.blk db 70 [M, .bool D2.off, arV D2.ar ab], x] → Zp.le (off w1 (blksOf [.blk db 70 [M, .bool D2.off, arV D2.ar ab], x])) → Fun Tryz.prog g cap.toList w1 fun v w' => ∃ u, v = .tuple #[] ∧ Turn w1 w' [.blk db 70 [M, .bool D2.off, arV D2.ar ab], x] [.blk db 70 [M, .bool D2.off, arV D2.ar ab], y u]) :
    Fun Tryz.prog 38 [.pointer (some ⟨db, 0, none⟩), .func (.func g) #[] cap] w fun v w' => ∃ x', v = errV (if cu = true then 80 else 0) ∧ Turn w w' [.blk db 70 [M, .bool D.off, arV D.ar ab], .grp (armO D.ar ab), x] [.blk db 70 [M, .bool D2.off, arV D2.ar ab], .grp (armO D2.ar ab), x'] ∧ ((cu = false ∨ modI pt 2 = 1) ∧ (∃ u, x' = y u) ∨ ¬ (cu = false ∨ modI pt 2 = 1) ∧ x' = x) := by
  cases cu with
  | false =>
    refine (DActF_ct db ab M D D2 pt g cap x y Zp w hc hA hM hZ hg hdo).mono ?_
    rintro v w' ⟨u, h1, h2⟩
    exact ⟨_, h1, h2, .inl ⟨.inl rfl, u, rfl⟩⟩
  | true =>
    refine (DActT_ct db ab M D D2 pt g cap x y Zp w hc hA hM hZ hg hdo).mono ?_
    rintro v w' ⟨h1, ⟨h2, u, h3⟩ | ⟨h2, h3⟩⟩
    · exact ⟨_, h1, h3, .inl ⟨.inr h2, u, rfl⟩⟩
    · exact ⟨_, h1, h3, .inr ⟨fun h => h.elim (fun h => by cases h) h2, rfl⟩⟩

end Go.Proofs.YtjcchjgkkplamaaGreatDoor
