/- Gg: several texts in one. -/
import Derived.Test.YtajapgjemefoiaaGreatDoorGb
import Derived.Test.YtajapgjemefoiaaGreatDoorGd
import Derived.Test.YtajapgjemefoiaaGreatDoorGa
import Derived.Test.YtajapgjemefoiaaGreatDoorGe
import Derived.Test.YtajapgjemefoiaaGreatDoorGf
import Derived.Test.YtajapgjemefoiaaGreatDoorGc
/- Layer 19, the document's own answer (muntinref19): names, numbers, records laid: what they answer. -/
set_option maxRecDepth 100000
set_option maxHeartbeats 4000000
set_option linter.unusedVariables false
set_option linter.unusedSimpArgs false
namespace Go.Proofs.YtajapgjemefoiaaGreatDoor
open Go.RowKit Go.SW
theorem numF_not2 {s : List UInt8} (h : s.length < 4 ∨ s.take 3 ≠ [108, 111, 103] ∨ gb s 3 = 48 ∨ 12 < s.length ∨ (s.drop 3).all dgB ≠ true) : numF s = 0 := by
  unfold numF
  refine if_neg ?_
  rintro ⟨h1, h2, h3, h4, h5⟩
  rcases h with h | h | h | h | h
  · omega
  · exact h h1
  · exact h3 h
  · omega
  · exact h h5
theorem numF_yes2 {s : List UInt8} (h1 : s.take 3 = [108, 111, 103]) (h2 : 3 < s.length) (h3 : gb s 3 ≠ 48) (h4 : s.length ≤ 12) (h5 : (s.drop 3).all dgB = true) : numF s = decV (s.drop 3) := by
  unfold numF
  exact if_pos ⟨h1, h2, h3, h4, h5⟩
theorem gb_drop3 (s : List UInt8) (j : Nat) : gb (s.drop 3) j = gb s (j + 3) := by simp [gb, List.getD_eq_getElem?_getD, List.getElem?_drop, Nat.add_comm]
theorem nameF_sh (k : Nat) (hk : k < 9223372036854775808) : (nameF k).length ≤ 24 := by
  rw [nameF_len, show (decB k).length = Lib.nDigits k from Lib.decDigits_length k]
  have := nDig_le 20 k (by omega)
  omega
theorem nameF_small {n : Nat} (h : n < 10) : nameF n = [108, 111, 103] ++ [UInt8.ofNat (48 + n)] := by
  unfold nameF decB
  rw [Lib.decDigits, dif_pos h]
theorem nameF_big {n : Nat} (h : ¬ n < 10) : nameF n = nameF (n / 10) ++ [UInt8.ofNat (48 + n % 10)] := by
  unfold nameF decB
  conv => lhs; rw [Lib.decDigits, dif_neg h]
  rw [List.append_assoc]

theorem RNumber19_ct (s : List UInt8) (w : World) (hs : s.length ≤ 140737488355328) :
    Fun Tryz.prog 94 [.string (bs s)] w fun v w' => v = .int .i64 ((numF s : Nat) : Int) ∧ Fresh w w' [] := by
 refine fun_of_sw Tryz.func94 rfl 48 rfl rfl ?_
 have hH := Hp.start w
 refine sw_sr <| Go0 1 <| Dn <| sw_seq <| sw_sr <| Gc0 2 6 (.int .i64 (((bs s).size : Nat) : Int)) (Ni s.length) (by rw [bs_size]) <| Go1 2 8 (.bool (decide (((s.length : Nat) : Int) < (4 : Int)))) <| Gi 8 rfl (fun hg1 => ?_) (fun hg1 => ?_)
 refine Go1 14 22 (.bool true) <| Dn <| It <| sw_sr <| Go1 1 2 (.int .i64 0) <| Dn <| Rt1 rfl rfl ?_
 exact ⟨by rw [numF_not2 (.inl (by omega))]; rfl, hH.fresh⟩
 refine Go1 1 9 (.string (bs s)) <| Gq rfl (rd_scut (a := 0) (b := 3) (by kernel_rfl) rfl (.inl ⟨rfl, rfl⟩) (.inr ⟨_, _, rfl, rfl⟩) (by omega) (by omega)) <| Gq rfl (rd_sneq (by kernel_rfl) rfl rfl) <| Go1 2 13 (.bool (!(((s.drop 0).take (3 - 0)) == [108, 111, 103]))) <| Gi 13 rfl (fun hg3 => ?_) (fun hg3 => ?_)
 have hw2 : s.take 3 ≠ [108, 111, 103] := by simpa using hg3
 refine Go1 9 22 (.bool true) <| Dn <| It <| sw_sr <| Go1 1 2 (.int .i64 0) <| Dn <| Rt1 rfl rfl ?_
 exact ⟨by rw [numF_not2 (.inr (.inl hw2))]; rfl, hH.fresh⟩
 have hw2 : s.take 3 = [108, 111, 103] := by simpa using hg3
 refine Go1 1 14 (.string (bs s)) <| Gq rfl (rd_sidx (by kernel_rfl) rfl 3 rfl (by omega)) <| Go1 3 18 (.bool (((gb s 3 : Nat) : Int) == (48 : Int))) <| Gi 18 rfl (fun hg5 => ?_) (fun hg5 => ?_)
 refine Go1 4 22 (.bool true) <| Dn <| It <| sw_sr <| Go1 1 2 (.int .i64 0) <| Dn <| Rt1 rfl rfl ?_
 exact ⟨by rw [numF_not2 (.inr (.inr (.inl (by omega))))]; rfl, hH.fresh⟩
 refine Gc0 2 20 (.int .i64 (((bs s).size : Nat) : Int)) (Ni s.length) (by rw [bs_size]) <| Go1 2 22 (.bool (decide (((s.length : Nat) : Int) > (12 : Int)))) <| Dn <| If rfl (fun hc7 => ?_) (fun hc7 => ?_)
 refine sw_sr <| Go1 1 2 (.int .i64 0) <| Dn <| Rt1 rfl rfl ?_
 exact ⟨by rw [numF_not2 (.inr (.inr (.inr (.inl (by omega)))))]; rfl, hH.fresh⟩
 refine Sk <| sw_sr <| Go1 1 3 (.int .i64 0) <| Dn <| sw_seq <| sw_sr <| Go1 1 4 (.int .i64 3) <| Dn <| sw_block <| Lp (γ := Nat) hH (fun j => [(0, .string (bs s)), (3, Ni (decV ((s.drop 3).take j))), (4, Ni (j + 3))]) (fun j w_ H_ => (j ≤ (s.drop 3).length) ∧ (((s.drop 3).take j).all dgB = true) ∧ H_ []) (fun j => (s.drop 3).length - j) (0) ?_ ?_
 · exact ⟨Nat.zero_le _, by simp, hH⟩
 clear hH
 rintro j w1 ⟨hi, hall, hH⟩
 have hlt := decV_lt _ hall
 rw [List.length_take, Nat.min_eq_left hi] at hlt
 have hdl : (s.drop 3).length = s.length - 3 := List.length_drop ..
 have hpw : 10 ^ j ≤ 10 ^ 9 := Nat.pow_le_pow_right (by omega) (by omega)
 have hgb := gb_lt s (j + 3)
 have hgd := gb_drop3 s j
 refine swk [(0, .string (bs s)), (3, Ni (decV ((s.drop 3).take j))), (4, Ni (j + 3))] <| sw_seq <| sw_sr <| Gc1 3 25 (.int .i64 (((bs s).size : Nat) : Int)) (Ni s.length) (by rw [bs_size]) 23 (Ni (j + 3)) <| Go1 1 26 (.bool (decide (((j + 3 : Nat) : Int) < ((s.length : Nat) : Int)))) <| Dn <| If rfl (fun hc8 => ?_) (fun hc8 => ?_)
 refine Sk <| sw_seq <| sw_block <| sw_seq <| sw_sr <| Go2 2 29 (.string (bs s)) 30 (Ni (j + 3)) <| Gq rfl (rd_sidx (by kernel_rfl) rfl (j + 3) rfl (by omega)) <| Go1 2 33 (.bool (decide (((gb s (j + 3) : Nat) : Int) < (48 : Int)))) <| Gi 33 rfl (fun hg9 => ?_) (fun hg9 => ?_)
 refine Go1 5 38 (.bool true) <| Dn <| It <| sw_sr <| Go1 1 2 (.int .i64 0) <| Dn <| Rt1 rfl rfl ?_
 exact ⟨by rw [numF_not2 (.inr (.inr (.inr (.inr (all_bad (l := s.drop 3) (i := j) (by omega) (by omega))))))]; rfl, hH.fresh⟩
 refine Go2 2 34 (.string (bs s)) 35 (Ni (j + 3)) <| Gq rfl (rd_sidx (by kernel_rfl) rfl (j + 3) rfl (by omega)) <| Go1 2 38 (.bool (decide (((gb s (j + 3) : Nat) : Int) > (57 : Int)))) <| Dn <| If rfl (fun hc11 => ?_) (fun hc11 => ?_)
 refine sw_sr <| Go1 1 2 (.int .i64 0) <| Dn <| Rt1 rfl rfl ?_
 exact ⟨by rw [numF_not2 (.inr (.inr (.inr (.inr (all_bad (l := s.drop 3) (i := j) (by omega) (by omega))))))]; rfl, hH.fresh⟩
 refine Sk ?_
 have hnx := dig_next (l := (s.drop 3)) (i := j) (by omega) hall (by omega) (by omega)
 refine sw_region <| Gw0 2 40 (10 * ((decV ((s.drop 3).take j) : Nat) : Int)) ((10 * (decV ((s.drop 3).take j)) : Nat) : Int) <| Go2 2 41 (.string (bs s)) 42 (Ni (j + 3)) <| Gq rfl (rd_sidx (by kernel_rfl) rfl (j + 3) rfl (by omega)) <| Gc0 1 44 (.int .u8 (IntKind.u8.wrap (((gb s (j + 3) : Nat) : Int) - 48))) (.int .u8 (((gb s (j + 3)) - 48 : Nat) : Int)) (cv_u8 (by omega)) <| Gw0 1 45 (((gb s (j + 3)) - 48 : Nat) : Int) (((gb s (j + 3)) - 48 : Nat) : Int) <| Gc0 1 46 (.int .i64 (IntKind.i64.wrap (((10 * (decV ((s.drop 3).take j)) : Nat) : Int) + (((gb s (j + 3)) - 48 : Nat) : Int)))) (Ni (decV ((s.drop 3).take (j + 1)))) (by rw [hnx.2, hgd]; exact cv_i64 (by omega)) <| Go1 1 3 (Ni (decV ((s.drop 3).take (j + 1)))) <| Dd <| bkN <| sw_next <| sw_region <| Gw0 2 28 (((j + 3 : Nat) : Int) + 1) (((j + 3) + 1 : Nat) : Int) <| Go1 1 4 (Ni ((j + 3) + 1)) <| Dd <| rnd_end (g := (j)) (j + 1) (by kernel_rfl) ?_ ?_
 · exact ⟨by omega, hnx.1, hH⟩
 · show (s.drop 3).length - (j + 1) < (s.drop 3).length - j; omega
 refine sw_exit <| thX <| thX <| bkH <| sw_next <| sw_sr <| Go1 2 2 (Ni (decV ((s.drop 3).take j))) <| Dn <| Rt1 rfl rfl ?_
 have hie : j = (s.drop 3).length := by omega
 subst hie
 rw [List.take_length] at hall ⊢
 exact ⟨by rw [numF_yes2 hw2 (by omega) (by omega) (by omega) hall], hH.fresh⟩
theorem RName19_ct (n : Nat) : ∀ (w : World), n < 9223372036854775808 →
    Fun Tryz.prog 61 [.int .i64 n] w fun v w' => v = .string (bs (nameF n)) ∧ Fresh w w' [] := by
 refine Nat.strongRecOn n (fun n ih w hn => ?_)
 refine fun_of_sw Tryz.func61 rfl 21 rfl rfl ?_
 have hH := Hp.start w
 refine sw_sr <| Go0 1 <| Dn <| sw_seq <| sw_sr <| Go1 2 4 (.bool (decide ((n : Int) < (10 : Int)))) <| Dn <| If rfl (fun hc1 => ?_) (fun hc1 => ?_)
 have h0 : n < 10 := by omega
 refine sw_sr <| Gw0 2 6 (48 + (n : Int)) ((48 + n : Nat) : Int) <| Gc0 1 7 (.int .u8 (IntKind.u8.wrap ((48 + n : Nat) : Int))) (.int .u8 (((UInt8.ofNat (48 + n)).toNat : Nat) : Int)) (cv_byte _) <| gl_st (st_buildS (e := 5) (zv := .int .u8 0) (m := 1) (bytes := 1) rfl rfl rfl (by kernel_rfl) (by kernel_rfl) rfl (cs := [.int .u8 (((UInt8.ofNat (48 + n)).toNat : Nat) : Int)]) (by kernel_rfl) rfl hH ?_)
 clear hH; intro b1 w2 hH
 replace hH := hH.row_eq 0 (l' := 1) (xs' := bv [UInt8.ofNat (48 + n)]) rfl (rfl) (rfl)
 refine Gq rfl (rd_str (e := 5) (by kernel_rfl) (by kernel_rfl) (by kernel_rfl) rfl (rb_own hH 0 rfl)) <| Gq rfl (rd_sadd (by kernel_rfl) rfl rfl (by simp)) <| Go1 1 2 (.string (bs ([108, 111, 103] ++ [UInt8.ofNat (48 + n)]))) <| Dn <| Rt1 rfl rfl ?_
 exact ⟨by rw [nameF_small h0], (hH.sb sln).fresh⟩
 have h0 : ¬ n < 10 := by omega
 refine Sk <| sw_seq ?_
 have hns := nameF_sh (n / 10) (by omega)
 refine Dr hH sln ?_
 clear hH; intro w3 hH hS9
 refine Dc1 2 [0,1] 12 (.int .i64 (IntKind.i64.wrap (Int.tdiv (n : Int) 10))) (Ni (n / 10)) (cvq_i64 (by omega)) 11 (Ni n) hS9 <| Dc1 2 [3,4] 15 (.int .i64 (Int.tmod (n : Int) 10)) (Ni (n % 10)) (cvr (by omega)) 14 (Ni n) hS9 <| Dw0 1 [5] 16 (48 + ((n % 10 : Nat) : Int)) ((48 + (n % 10) : Nat) : Int) hS9 <| Dc0 1 [6] 17 (.int .u8 (IntKind.u8.wrap ((48 + (n % 10) : Nat) : Int))) (.int .u8 (((UInt8.ofNat (48 + n % 10)).toNat : Nat) : Int)) (cv_byte _) hS9 <| gd_st2 2 7 (by kernel_rfl) ?_ ?_
 refine Sc rfl rfl (ih (n / 10) (by omega) _ (by omega)) ?_
 rintro _ w4 ⟨rfl, hF5⟩
 replace hH := hH.call hF5
 refine Nl (hH.sb sln) fun hS9 => gdk [(13, .string (bs (nameF (n / 10)))), (17, .int .u8 (((UInt8.ofNat (48 + n % 10)).toNat : Nat) : Int))] <| gds 7 (st_buildS (e := 5) (zv := .int .u8 0) (m := 1) (bytes := 1) rfl rfl rfl (by kernel_rfl) (by kernel_rfl) rfl (cs := [.int .u8 (((UInt8.ofNat (48 + n % 10)).toNat : Nat) : Int)]) (by kernel_rfl) rfl hH ?_)
 clear hH; intro b6 w7 hH
 refine Nl (hH.sb sln) fun hS9 => ?_
 replace hH := hH.row_eq 0 (l' := 1) (xs' := bv [UInt8.ofNat (48 + n % 10)]) rfl (rfl) (rfl)
 refine gds 8 (st_q rfl rfl rfl (rd_str (e := 5) (by kernel_rfl) (by kernel_rfl) (by kernel_rfl) rfl (rb_own hH 0 rfl)) ?_)
 refine Nl hS9 fun hS9 => Dq 9 rfl (fun _ hS => (rd_sadd (by kernel_rfl) rfl rfl (by simp; omega))) hS9 <| Gp1 1 [10] 2 (.string (bs ((nameF (n / 10)) ++ [UInt8.ofNat (48 + n % 10)]))) hS9 <| gdn [(2, .string (bs ((nameF (n / 10)) ++ [UInt8.ofNat (48 + n % 10)])))] <| sw_next <| Rt1 rfl rfl ?_
 exact ⟨by rw [nameF_big h0], (hH.sb sln).fresh⟩
 refine st_buildS (e := 5) (zv := .int .u8 0) (m := 1) (bytes := 1) rfl rfl rfl (by kernel_rfl) (by kernel_rfl) rfl (cs := [.int .u8 (((UInt8.ofNat (48 + n % 10)).toNat : Nat) : Int)]) (by kernel_rfl) rfl hH ?_
 clear hH; intro b8 w9 hH
 refine Nl (hH.sb sln) fun hS9 => ?_
 replace hH := hH.row_eq 0 (l' := 1) (xs' := bv [UInt8.ofNat (48 + n % 10)]) rfl (rfl) (rfl)
 refine gdk [(12, Ni (n / 10)), (18, .slice (some ⟨b8, 0, none⟩) 1 1)] <| gd_st2 2 8 (by kernel_rfl) ?_ ?_
 refine Sc rfl rfl (ih (n / 10) (by omega) _ (by omega)) ?_
 rintro _ w10 ⟨rfl, hF11⟩
 replace hH := hH.call hF11
 refine Nl (hH.sb sln) fun hS9 => gdk [(13, .string (bs (nameF (n / 10)))), (18, .slice (some ⟨b8, 0, none⟩) 1 1)] <| gds 8 (st_q rfl rfl rfl (rd_str (e := 5) (by kernel_rfl) (by kernel_rfl) (by kernel_rfl) rfl (rb_own hH 0 rfl)) ?_)
 refine Nl hS9 fun hS9 => Dq 9 rfl (fun _ hS => (rd_sadd (by kernel_rfl) rfl rfl (by simp; omega))) hS9 <| Gp1 1 [10] 2 (.string (bs ((nameF (n / 10)) ++ [UInt8.ofNat (48 + n % 10)]))) hS9 <| gdn [(2, .string (bs ((nameF (n / 10)) ++ [UInt8.ofNat (48 + n % 10)])))] <| sw_next <| Rt1 rfl rfl ?_
 exact ⟨by rw [nameF_big h0], (hH.sb sln).fresh⟩
 refine st_q rfl rfl rfl (rd_str (e := 5) (by kernel_rfl) (by kernel_rfl) (by kernel_rfl) rfl (rb_own hH 0 rfl)) <| Nl hS9 fun hS9 => gdk [(12, Ni (n / 10)), (19, .string (bs [UInt8.ofNat (48 + n % 10)]))] <| gds 2 (Sc rfl rfl (ih (n / 10) (by omega) _ (by omega)) ?_)
 rintro _ w12 ⟨rfl, hF13⟩
 replace hH := hH.call hF13
 refine Nl (hH.sb sln) fun hS9 => Dq 9 rfl (fun _ hS => (rd_sadd (by kernel_rfl) rfl rfl (by simp; omega))) hS9 <| Gp1 1 [10] 2 (.string (bs ((nameF (n / 10)) ++ [UInt8.ofNat (48 + n % 10)]))) hS9 <| gdn [(2, .string (bs ((nameF (n / 10)) ++ [UInt8.ofNat (48 + n % 10)])))] <| sw_next <| Rt1 rfl rfl ?_
 exact ⟨by rw [nameF_big h0], (hH.sb sln).fresh⟩
theorem RNums_ct (a b c : Nat) (vl : Value) (w : World) (ha : a < 9223372036854775808) (hb : b < 9223372036854775808) (hc : c < 9223372036854775808) (hR : Row w.cell? vl 1 3 [.int .i64 ((a : Nat) : Int), .int .i64 ((b : Nat) : Int), .int .i64 ((c : Nat) : Int)]) :
    Fun Tryz.prog 97 [vl] w fun v w' => ∃ v1, v = v1 ∧ Fresh w w' [.row v1 5 1 (numB a ++ numB b ++ numB c).length (bv (numB a ++ numB b ++ numB c))] := by
 obtain ⟨Al, cl, rfl, _, _⟩ := hR.form
 have hn1 := numB_le a
 have hn2 := numB_le b
 have hn3 := numB_le c
 have hlA : (numB a ++ numB b).length ≤ 18 := by simp only [List.length_append]; omega
 refine fun_of_sw Tryz.func97 rfl 25 rfl rfl ?_
 have hH := Hp.start w
 refine sw_sr <| Go0 1 <| Dn <| sw_sr <| Go1 1 3 (.slice none 0 0) ?_
 replace hH := hH.nilRow 5 1
 refine Dn <| sw_seq <| sw_sr <| Go1 1 4 (.int .i64 0) <| Dn <| sw_block <| sw_unroll <| sw_seq <| sw_sr <| Go2 2 7 (.int .i64 0) 8 (.slice Al 3 cl) <| Gq rfl (Ln (e := 3) rfl) <| Go1 1 10 (.bool true) <| Dn <| It <| sw_skip <| sw_next <| sw_seq <| sw_block <| sw_sr ?_
 obtain ⟨p1, hi3, hp2⟩ := hR.idx 0 (by omega) (by decide)
 refine Go2 2 14 (.slice Al 3 cl) 15 (.int .i64 0) <| Gq rfl (Ix (e := 3) 1 rfl rfl hi3) <| Gq rfl (rd_load (by kernel_rfl) rfl (hH.zin _ _ (hp2 0 _ (by decide) rfl))) <| gl_st (Sc rfl rfl (by have h9 := RNum_ct ((a : Int) : Int) (by omega) w (by omega); rw [Int.toNat_natCast] at h9; exact h9) ?_)
 rintro _ w6 ⟨v4, rfl, hF7⟩
 replace hH := hH.call hF7
 obtain ⟨A8, c9, rfl, hl10, hm11⟩ := hH.row_form 1 rfl
 refine Go1 5 5 (.slice A8 ((numB a).length) c9) <| Dn <| sw_region <| Go2 2 21 (.slice none 0 0) 22 (.slice A8 ((numB a).length) c9) <| gl_st (Apd (e := 5) (.int .u8 0) 1 1 0 rfl hH rfl rfl rfl (hH.row_reads 1 rfl) (bv_one _) (by unfold maxLen; omega) (by omega) ?_)
 clear hH; intro v12 w13 hH
 replace hH := hH.row_eq 0 (l' := (numB a).length) (xs' := bv (numB a)) rfl (Nat.zero_add _) (List.nil_append _)
 obtain ⟨A14, c15, rfl, hl16, hm17⟩ := hH.row_form 0 rfl
 refine Go1 1 3 (.slice A14 ((numB a).length) c15) <| Dd <| bkN <| sw_next <| sw_region <| Gw0 2 12 (0 + 1) 1 <| Go1 1 4 (.int .i64 1) <| Dd <| sw_again <| swk [(0, .slice Al 3 cl), (3, .slice A14 ((numB a).length) c15), (4, .int .i64 1)] <| sw_seq <| sw_sr <| Go2 2 7 (.int .i64 1) 8 (.slice Al 3 cl) <| Gq rfl (Ln (e := 3) rfl) <| Go1 1 10 (.bool true) <| Dn <| It <| sw_skip <| sw_next <| sw_seq <| sw_block <| sw_sr ?_
 obtain ⟨p18, hi20, hp19⟩ := hR.idx 1 (by omega) (by decide)
 refine Go2 2 14 (.slice Al 3 cl) 15 (.int .i64 1) <| Gq rfl (Ix (e := 3) 1 rfl rfl hi20) <| Gq rfl (rd_load (by kernel_rfl) rfl (hH.zin _ _ (hp19 0 _ (by decide) rfl))) <| gl_st (Sc rfl rfl (by have h9 := RNum_ct ((b : Int) : Int) (by omega) w13 (by omega); rw [Int.toNat_natCast] at h9; exact h9) ?_)
 rintro _ w23 ⟨v21, rfl, hF24⟩
 replace hH := hH.call hF24
 obtain ⟨A25, c26, rfl, hl27, hm28⟩ := hH.row_form 2 rfl
 refine Go1 5 5 (.slice A25 ((numB b).length) c26) <| Dn <| sw_region <| Go2 2 21 (.slice A14 ((numB a).length) c15) 22 (.slice A25 ((numB b).length) c26) <| gl_st (Apd (e := 5) (.int .u8 0) 1 1 0 rfl hH rfl rfl rfl (hH.row_reads 2 rfl) (bv_one _) (by unfold maxLen; omega) (by omega) ?_)
 clear hH; intro v29 w30 hH
 replace hH := hH.row_eq 0 (l' := ((numB a) ++ (numB b)).length) (xs' := bv ((numB a) ++ (numB b))) rfl (by simp only [List.length_append, List.length_cons, List.length_nil] <;> omega) ((bv_append _ _).symm)
 obtain ⟨A31, c32, rfl, hl33, hm34⟩ := hH.row_form 0 rfl
 refine Go1 1 3 (.slice A31 (((numB a) ++ (numB b)).length) c32) <| Dd <| bkN <| sw_next <| sw_region <| Gw0 2 12 (1 + 1) 2 <| Go1 1 4 (.int .i64 2) <| Dd <| sw_again <| swk [(0, .slice Al 3 cl), (3, .slice A31 (((numB a) ++ (numB b)).length) c32), (4, .int .i64 2)] <| sw_seq <| sw_sr <| Go2 2 7 (.int .i64 2) 8 (.slice Al 3 cl) <| Gq rfl (Ln (e := 3) rfl) <| Go1 1 10 (.bool true) <| Dn <| It <| sw_skip <| sw_next <| sw_seq <| sw_block <| sw_sr ?_
 obtain ⟨p35, hi37, hp36⟩ := hR.idx 2 (by omega) (by decide)
 refine Go2 2 14 (.slice Al 3 cl) 15 (.int .i64 2) <| Gq rfl (Ix (e := 3) 1 rfl rfl hi37) <| Gq rfl (rd_load (by kernel_rfl) rfl (hH.zin _ _ (hp36 0 _ (by decide) rfl))) <| gl_st (Sc rfl rfl (by have h9 := RNum_ct ((c : Int) : Int) (by omega) w30 (by omega); rw [Int.toNat_natCast] at h9; exact h9) ?_)
 rintro _ w40 ⟨v38, rfl, hF41⟩
 replace hH := hH.call hF41
 obtain ⟨A42, c43, rfl, hl44, hm45⟩ := hH.row_form 3 rfl
 refine Go1 5 5 (.slice A42 ((numB c).length) c43) <| Dn <| sw_region <| Go2 2 21 (.slice A31 (((numB a) ++ (numB b)).length) c32) 22 (.slice A42 ((numB c).length) c43) <| gl_st (Apd (e := 5) (.int .u8 0) 1 1 0 rfl hH rfl rfl rfl (hH.row_reads 3 rfl) (bv_one _) (by unfold maxLen; omega) (by omega) ?_)
 clear hH; intro v46 w47 hH
 replace hH := hH.row_eq 0 (l' := (((numB a) ++ (numB b)) ++ (numB c)).length) (xs' := bv (((numB a) ++ (numB b)) ++ (numB c))) rfl (by simp only [List.length_append, List.length_cons, List.length_nil] <;> omega) ((bv_append _ _).symm)
 obtain ⟨A48, c49, rfl, hl50, hm51⟩ := hH.row_form 0 rfl
 refine Go1 1 3 (.slice A48 ((((numB a) ++ (numB b)) ++ (numB c)).length) c49) <| Dd <| bkN <| sw_next <| sw_region <| Gw0 2 12 (2 + 1) 3 <| Go1 1 4 (.int .i64 3) <| Dd <| sw_again <| swk [(0, .slice Al 3 cl), (3, .slice A48 ((((numB a) ++ (numB b)) ++ (numB c)).length) c49), (4, .int .i64 3)] <| sw_seq <| sw_sr <| Go2 2 7 (.int .i64 3) 8 (.slice Al 3 cl) <| Gq rfl (Ln (e := 3) rfl) <| Go1 1 10 (.bool false) <| Dn <| Iz <| sw_exit <| thX <| thX <| bkH <| sw_next <| sw_sr <| Go1 2 2 (.slice A48 ((((numB a) ++ (numB b)) ++ (numB c)).length) c49) <| Dn <| Rt1 rfl rfl ?_
 exact ⟨_, rfl, (hH.sb (slk sln)).fresh⟩
theorem RFrame19_ct (vp : Value) (p : List UInt8) (w : World) (hp : RB w.cell? vp p) :
    Fun Tryz.prog 96 [vp] w fun v w' => ∃ v1, v = v1 ∧ Fresh w w' [.row v1 5 1 (frameO p).length (bv (frameO p))] := by
 obtain ⟨Ap, cp, rfl, hp1, hp2⟩ := hp.row.form
 refine fun_of_sw Tryz.func96 rfl 11 rfl rfl ?_
 have hH := Hp.start w
 refine sw_sr <| Go0 1 <| Dn <| sw_sr <| Go1 1 6 (.slice Ap p.length cp) <| gl_st (Sc rfl rfl (RFrame_ct _ _ _ (hp.mono hH.zin)) ?_)
 rintro _ w3 ⟨v1, rfl, hF4⟩
 replace hH := hH.call hF4
 obtain ⟨A5, c6, rfl, hl7, hm8⟩ := hH.row_form 0 rfl
 refine Go1 5 3 (.slice A5 ((frameO p).length) c6) <| Dn <| sw_sr <| Go1 2 2 (.slice A5 ((frameO p).length) c6) <| Dn <| Rt1 rfl rfl ?_
 exact ⟨_, rfl, (hH.sb (slk sln)).fresh⟩
theorem RBase19_ct (i t : Nat) (w : World) (hi : i < 9223372036854775808) (ht : t < 9223372036854775808) :
    Fun Tryz.prog 62 [.int .i64 ((i : Nat) : Int), .int .i64 ((t : Nat) : Int)] w fun v w' => ∃ v1, v = v1 ∧ Fresh w w' [.row v1 5 1 (recB ⟨3, i, t, 0, []⟩).length (bv (recB ⟨3, i, t, 0, []⟩))] := by
 refine fun_of_sw Tryz.func62 rfl 10 rfl rfl ?_
 have hH := Hp.start w
 refine sw_sr <| Go0 1 <| Dn <| sw_sr <| Go2 2 5 (Ni i) 6 (Ni t) <| gl_st (st_buildS (e := 3) (zv := .int .i64 0) (m := 1) (bytes := 8) rfl rfl rfl (by kernel_rfl) (by kernel_rfl) rfl (cs := [.int .i64 3, Ni i, Ni t]) (by kernel_rfl) rfl hH ?_)
 clear hH; intro b1 w2 hH
 refine gl_st (Sc rfl rfl (RNums_ct 3 i t _ _ (by omega) (by omega) (by omega) (hH.row_reads 0 rfl)) ?_)
 rintro _ w5 ⟨v3, rfl, hF6⟩
 replace hH := hH.call hF6
 obtain ⟨A7, c8, rfl, hl9, hm10⟩ := hH.row_form 1 rfl
 refine gl_st (Sc rfl rfl (RFrame19_ct _ _ _ (rb_own hH 1 rfl)) ?_)
 rintro _ w13 ⟨v11, rfl, hF14⟩
 replace hH := hH.call hF14
 obtain ⟨A15, c16, rfl, hl17, hm18⟩ := hH.row_form 2 rfl
 refine Go1 1 4 (.slice A15 ((frameO (numB 3 ++ numB i ++ numB t)).length) c16) <| Dn <| Rt1 rfl rfl ?_
 exact ⟨_, rfl, ((hH.sb (slc (slc (slk sln)))).cast (by rw [rec_one (by decide)])).fresh⟩
theorem RState19_ct (i t : Nat) (w : World) (hi : i < 9223372036854775808) (ht : t < 9223372036854775808) :
    Fun Tryz.prog 63 [.int .i64 ((i : Nat) : Int), .int .i64 ((t : Nat) : Int)] w fun v w' => ∃ v1, v = v1 ∧ Fresh w w' [.row v1 5 1 (recB ⟨1, i, t, 0, []⟩).length (bv (recB ⟨1, i, t, 0, []⟩))] := by
 refine fun_of_sw Tryz.func63 rfl 10 rfl rfl ?_
 have hH := Hp.start w
 refine sw_sr <| Go0 1 <| Dn <| sw_sr <| Go2 2 5 (Ni i) 6 (Ni t) <| gl_st (st_buildS (e := 3) (zv := .int .i64 0) (m := 1) (bytes := 8) rfl rfl rfl (by kernel_rfl) (by kernel_rfl) rfl (cs := [.int .i64 1, Ni i, Ni t]) (by kernel_rfl) rfl hH ?_)
 clear hH; intro b1 w2 hH
 refine gl_st (Sc rfl rfl (RNums_ct 1 i t _ _ (by omega) (by omega) (by omega) (hH.row_reads 0 rfl)) ?_)
 rintro _ w5 ⟨v3, rfl, hF6⟩
 replace hH := hH.call hF6
 obtain ⟨A7, c8, rfl, hl9, hm10⟩ := hH.row_form 1 rfl
 refine gl_st (Sc rfl rfl (RFrame19_ct _ _ _ (rb_own hH 1 rfl)) ?_)
 rintro _ w13 ⟨v11, rfl, hF14⟩
 replace hH := hH.call hF14
 obtain ⟨A15, c16, rfl, hl17, hm18⟩ := hH.row_form 2 rfl
 refine Go1 1 4 (.slice A15 ((frameO (numB 1 ++ numB i ++ numB t)).length) c16) <| Dn <| Rt1 rfl rfl ?_
 exact ⟨_, rfl, ((hH.sb (slc (slc (slk sln)))).cast (by rw [rec_one (by decide)])).fresh⟩
end Go.Proofs.YtajapgjemefoiaaGreatDoor
/- Layer 19, the document's own answer (muntinref19): a record is read: what it answers. -/
set_option maxRecDepth 100000
set_option maxHeartbeats 4000000
set_option linter.unusedVariables false
set_option linter.unusedSimpArgs false
namespace Go.Proofs.YtajapgjemefoiaaGreatDoor
open Go.RowKit Go.SW
section
variable {p : List UInt8} {k u0 e0 a u1 e1 b u2 e2 c u3 e3 : Nat}
theorem readR_n0 (h0 : takeNum p = (k, u0, e0)) (h : e0 ≠ 0 ∨ k < 1 ∨ 3 < k) : readR p = none := by
  unfold readR
  rw [h0]
  simp only
  by_cases he : e0 ≠ 0
  · rw [if_pos he]
  · rw [if_neg he, if_neg (show ¬ k = 2 by omega), if_neg (show ¬ ((k = 1 ∨ k = 3) ∧ _) from fun x => by have := x.1; omega)]
    split
    · rfl
    split <;> rfl
theorem readR_n1 (h0 : takeNum p = (k, u0, e0)) (z0 : e0 = 0) (h1 : takeNum (p.drop u0) = (a, u1, e1)) (h : e1 ≠ 0) : readR p = none := by
  unfold readR
  rw [h0]
  simp only
  rw [if_neg (fun x => x z0), h1, if_pos h]
theorem readR_n2 (h0 : takeNum p = (k, u0, e0)) (z0 : e0 = 0) (h1 : takeNum (p.drop u0) = (a, u1, e1)) (z1 : e1 = 0) (h2 : takeNum (p.drop (u0 + u1)) = (b, u2, e2)) (h : e2 ≠ 0) : readR p = none := by
  unfold readR
  rw [h0]
  simp only
  rw [if_neg (fun x => x z0), h1]
  simp only
  rw [if_neg (fun x => x z1), List.drop_drop, h2, if_pos h]
theorem readR_all (h0 : takeNum p = (k, u0, e0)) (z0 : e0 = 0) (h1 : takeNum (p.drop u0) = (a, u1, e1)) (z1 : e1 = 0) (h2 : takeNum (p.drop (u0 + u1)) = (b, u2, e2)) (z2 : e2 = 0) :
    readR p = if k = 2 then (if (takeNum (p.drop (u0 + u1 + u2))).2.2 ≠ 0 then none else if (takeBlob ((p.drop (u0 + u1 + u2)).drop (takeNum (p.drop (u0 + u1 + u2))).2.1)).2.2 ≠ 0 then none else
      if ((p.drop (u0 + u1 + u2)).drop (takeNum (p.drop (u0 + u1 + u2))).2.1).drop (takeBlob ((p.drop (u0 + u1 + u2)).drop (takeNum (p.drop (u0 + u1 + u2))).2.1)).2.1 = [] then some ⟨2, a, b, (takeNum (p.drop (u0 + u1 + u2))).1, (takeBlob ((p.drop (u0 + u1 + u2)).drop (takeNum (p.drop (u0 + u1 + u2))).2.1)).1⟩ else none)
    else if (k = 1 ∨ k = 3) ∧ p.drop (u0 + u1 + u2) = [] then some ⟨k, a, b, 0, []⟩ else none := by
  unfold readR
  rw [h0]
  simp only
  rw [if_neg (fun x => x z0), h1]
  simp only
  rw [if_neg (fun x => x z1), List.drop_drop, h2]
  simp only
  rw [if_neg (fun x => x z2), List.drop_drop]
theorem readR_n3 (h0 : takeNum p = (k, u0, e0)) (z0 : e0 = 0) (h1 : takeNum (p.drop u0) = (a, u1, e1)) (z1 : e1 = 0) (h2 : takeNum (p.drop (u0 + u1)) = (b, u2, e2)) (z2 : e2 = 0) (hk : k = 2) (h3 : takeNum (p.drop (u0 + u1 + u2)) = (c, u3, e3)) (h : e3 ≠ 0) : readR p = none := by
  rw [readR_all h0 z0 h1 z1 h2 z2, if_pos hk, h3, if_pos h]
theorem readR_f2 (h0 : takeNum p = (k, u0, e0)) (z0 : e0 = 0) (h1 : takeNum (p.drop u0) = (a, u1, e1)) (z1 : e1 = 0) (h2 : takeNum (p.drop (u0 + u1)) = (b, u2, e2)) (z2 : e2 = 0) (hk : k = 2) (h3 : takeNum (p.drop (u0 + u1 + u2)) = (c, u3, e3)) (z3 : e3 = 0) :
    readR p = if (takeBlob (p.drop (u0 + u1 + u2 + u3))).2.2 ≠ 0 then none else if p.length ≤ u0 + u1 + u2 + u3 + (takeBlob (p.drop (u0 + u1 + u2 + u3))).2.1 then some ⟨2, a, b, c, (takeBlob (p.drop (u0 + u1 + u2 + u3))).1⟩ else none := by
  rw [readR_all h0 z0 h1 z1 h2 z2, if_pos hk, h3]
  simp only
  rw [if_neg (fun x => x z3), List.drop_drop, List.drop_drop]
  simp only [List.drop_eq_nil_iff]
theorem readR_f1 (h0 : takeNum p = (k, u0, e0)) (z0 : e0 = 0) (h1 : takeNum (p.drop u0) = (a, u1, e1)) (z1 : e1 = 0) (h2 : takeNum (p.drop (u0 + u1)) = (b, u2, e2)) (z2 : e2 = 0) (hk : k ≠ 2) (hk2 : k = 1 ∨ k = 3) :
    readR p = if p.length ≤ u0 + u1 + u2 then some ⟨k, a, b, 0, []⟩ else none := by
  rw [readR_all h0 z0 h1 z1 h2 z2, if_neg hk]
  simp only [List.drop_eq_nil_iff, hk2, true_and]
end
def rcN (r : Rc) : List Int := if r.k = 2 then [2, (r.a : Int), (r.b : Int), (r.c : Int)] else [(r.k : Int), (r.a : Int), (r.b : Int)]
theorem rcN_2 (a b c : Nat) (d : List UInt8) : rcN ⟨2, a, b, c, d⟩ = [2, (a : Int), (b : Int), (c : Int)] := if_pos rfl
theorem rcN_1 {k : Nat} (h : k ≠ 2) (a b c : Nat) (d : List UInt8) : rcN ⟨k, a, b, c, d⟩ = [(k : Int), (a : Int), (b : Int)] := if_neg h
def RecIs (p : List UInt8) (ns : List Int) (d : List UInt8) (ok : Bool) : Prop := (ok = false ∧ readR p = none) ∨ (ok = true ∧ ∃ r, readR p = some r ∧ ns = rcN r ∧ d = r.d)
theorem recIs_no {p : List UInt8} (h : readR p = none) (ns : List Int) (d : List UInt8) : RecIs p ns d false := .inl ⟨rfl, h⟩

theorem Record_ct (vp : Value) (p : List UInt8) (w : World) (hp : RB w.cell? vp p) :
    Fun Tryz.prog 98 [vp] w fun v w' => ∃ v1 v2 ns d ok, v = .tuple #[v1, v2, .bool ok] ∧ RecIs p ns d ok ∧ Fresh w w' [.row v1 3 1 ns.length (iv ns), .row v2 5 1 d.length (bv d)] := by
 obtain ⟨Ap, cp, rfl, hp1, hp2⟩ := hp.row.form
 have hpl : p.length ≤ 9223372036854775807 := RB.le hp
 refine fun_of_sw Tryz.func98 rfl 82 rfl rfl ?_
 have hH := Hp.start w
 refine sw_sr <| Go0 3 <| Dn <| sw_sr ?_
 obtain ⟨k1, u2, er3, ht4⟩ : ∃ k u e, takeNum p = (k, u, e) := ⟨_, _, _, rfl⟩
 have hu5 := takeNum_used p
 rw [ht4] at hu5
 try simp only [List.length_drop] at hu5
 refine Go1 1 19 (.slice Ap p.length cp) <| gl_st (Sc rfl rfl (by have h9 := RTakeNum_ct _ p _ (hp.mono hH.zin); rw [ht4] at h9; exact h9) ?_)
 rintro _ w6 ⟨rfl, hF7⟩
 replace hH := hH.call hF7
 refine Go3 7 5 (Ni k1) 6 (Ni u2) 7 (Ni er3) <| Dn <| sw_seq <| sw_sr <| Go1 3 26 (.bool ((er3 : Int) != (0 : Int))) <| Gi 26 rfl (fun hg1 => ?_) (fun hg1 => ?_)
 refine Go1 7 33 (.bool true) <| Dn <| It <| sw_sr <| Go3 3 2 (.slice none 0 0) 3 (.slice none 0 0) 4 (.bool false) <| Dn <| Rt3 rfl rfl rfl rfl ?_
 exact ⟨_, _, [], [], false, rfl, recIs_no (readR_n0 ht4 (by omega)) _ _, (((hH.sb sln).nilRow 3 1).nilRow 5 1).fresh⟩
 refine Go1 4 30 (.bool (decide ((k1 : Int) < (1 : Int)))) <| Gi 30 rfl (fun hg3 => ?_) (fun hg3 => ?_)
 refine Go1 3 33 (.bool true) <| Dn <| It <| sw_sr <| Go3 3 2 (.slice none 0 0) 3 (.slice none 0 0) 4 (.bool false) <| Dn <| Rt3 rfl rfl rfl rfl ?_
 exact ⟨_, _, [], [], false, rfl, recIs_no (readR_n0 ht4 (by omega)) _ _, (((hH.sb sln).nilRow 3 1).nilRow 5 1).fresh⟩
 refine Go1 3 33 (.bool (decide ((k1 : Int) > (3 : Int)))) <| Dn <| If rfl (fun hc5 => ?_) (fun hc5 => ?_)
 refine sw_sr <| Go3 3 2 (.slice none 0 0) 3 (.slice none 0 0) 4 (.bool false) <| Dn <| Rt3 rfl rfl rfl rfl ?_
 exact ⟨_, _, [], [], false, rfl, recIs_no (readR_n0 ht4 (by omega)) _ _, (((hH.sb sln).nilRow 3 1).nilRow 5 1).fresh⟩
 refine Sk <| sw_sr <| Go1 1 34 (Ni k1) <| gl_st (st_buildS (e := 3) (zv := .int .i64 0) (m := 1) (bytes := 8) rfl rfl rfl (by kernel_rfl) (by kernel_rfl) rfl (cs := [Ni k1]) (by kernel_rfl) rfl hH ?_)
 clear hH; intro b8 w9 hH
 refine Go1 1 8 (.slice (some ⟨b8, 0, none⟩) 1 1) <| Dn <| sw_sr <| Go1 1 9 (.int .i64 2) <| Dn <| sw_seq <| sw_sr <| Go1 2 37 (.bool ((k1 : Int) == (2 : Int))) <| Dn <| If rfl (fun hc6 => ?_) (fun hc6 => ?_)
 have hk2 : k1 = 2 := by omega
 refine sw_region <| Go1 1 9 (.int .i64 3) <| Dd <| sw_next <| sw_seq <| sw_sr <| Go1 1 10 (.int .i64 0) <| Dn <| sw_block <| sw_unroll <| sw_seq <| sw_sr <| Go1 3 40 (.bool true) <| Dn <| It <| sw_skip <| sw_next <| sw_seq <| sw_block <| sw_sr ?_
 obtain ⟨A10, hk11, hv12⟩ := hp.row.cut (by decide) u2 p.length (by omega) (by omega)
 refine Go2 2 44 (.slice Ap p.length cp) 45 (Ni u2) <| Gq rfl (rd_cut (e := 5) (m := 1) (by kernel_rfl) (by kernel_rfl) rfl (.inr ⟨_, _, rfl, rfl⟩) (.inl ⟨rfl, rfl⟩) hk11) ?_
 have hr13 := RB.tail hv12
 obtain ⟨k14, u15, er16, ht17⟩ : ∃ k u e, takeNum (p.drop u2) = (k, u, e) := ⟨_, _, _, rfl⟩
 have hu18 := takeNum_used (p.drop u2)
 rw [ht17] at hu18
 try simp only [List.length_drop] at hu18
 refine gl_st (Sc rfl rfl (by have h9 := RTakeNum_ct _ (p.drop u2) _ (hr13.mono hH.zin); rw [ht17] at h9; exact h9) ?_)
 rintro _ w19 ⟨rfl, hF20⟩
 replace hH := hH.call hF20
 refine Go3 7 11 (Ni k14) 12 (Ni u15) 13 (Ni er16) <| Dn <| sw_seq <| sw_sr <| Go1 2 52 (.bool ((er16 : Int) != (0 : Int))) <| Dn <| If rfl (fun hc8 => ?_) (fun hc8 => ?_)
 refine sw_sr <| Go3 3 2 (.slice none 0 0) 3 (.slice none 0 0) 4 (.bool false) <| Dn <| Rt3 rfl rfl rfl rfl ?_
 exact ⟨_, _, [], [], false, rfl, recIs_no (readR_n1 ht4 (by omega) ht17 (by omega)) _ _, (((hH.sb sln).nilRow 3 1).nilRow 5 1).fresh⟩
 refine Sk <| sw_sr <| Go2 2 53 (.slice (some ⟨b8, 0, none⟩) 1 1) 54 (Ni k14) <| gl_st (st_buildS (e := 3) (zv := .int .i64 0) (m := 1) (bytes := 8) rfl rfl rfl (by kernel_rfl) (by kernel_rfl) rfl (cs := [Ni k14]) (by kernel_rfl) rfl hH ?_)
 clear hH; intro b21 w22 hH
 refine gl_st (Apd (e := 3) (.int .i64 0) 1 8 0 rfl hH rfl rfl rfl (hH.row_reads 1 rfl) (by simp [Value.oneCell']) (by unfold maxLen; omega) (by omega) ?_)
 clear hH; intro v23 w24 hH
 replace hH := hH.row_eq 0 (l' := 2) (xs' := [Ni k1, Ni k14]) rfl (rfl) (rfl)
 obtain ⟨A25, c26, rfl, hl27, hm28⟩ := hH.row_form 0 rfl
 refine glo 1 [(0, .slice Ap p.length cp), (5, Ni k1), (6, Ni u2), (8, .slice A25 2 c26), (9, .int .i64 3), (10, .int .i64 0), (12, Ni u15)] <| Dn <| sw_region <| Gw0 3 59 ((u2 : Int) + (u15 : Int)) ((u2 + u15 : Nat) : Int) <| Go1 1 6 (Ni (u2 + u15)) <| Dd <| bkN <| sw_next <| sw_region <| Gw0 2 42 (0 + 1) 1 <| Go1 1 10 (.int .i64 1) <| Dd <| sw_again <| swk [(0, .slice Ap p.length cp), (5, Ni k1), (6, Ni (u2 + u15)), (8, .slice A25 2 c26), (9, .int .i64 3), (10, .int .i64 1)] <| sw_seq <| sw_sr <| Go1 3 40 (.bool true) <| Dn <| It <| sw_skip <| sw_next <| sw_seq <| sw_block <| sw_sr ?_
 obtain ⟨A29, hk30, hv31⟩ := hp.row.cut (by decide) (u2 + u15) p.length (by omega) (by omega)
 refine Go2 2 44 (.slice Ap p.length cp) 45 (Ni (u2 + u15)) <| Gq rfl (rd_cut (e := 5) (m := 1) (by kernel_rfl) (by kernel_rfl) rfl (.inr ⟨_, _, rfl, rfl⟩) (.inl ⟨rfl, rfl⟩) hk30) ?_
 have hr32 := RB.tail hv31
 obtain ⟨k33, u34, er35, ht36⟩ : ∃ k u e, takeNum (p.drop (u2 + u15)) = (k, u, e) := ⟨_, _, _, rfl⟩
 have hu37 := takeNum_used (p.drop (u2 + u15))
 rw [ht36] at hu37
 try simp only [List.length_drop] at hu37
 refine gl_st (Sc rfl rfl (by have h9 := RTakeNum_ct _ (p.drop (u2 + u15)) _ (hr32.mono hH.zin); rw [ht36] at h9; exact h9) ?_)
 rintro _ w38 ⟨rfl, hF39⟩
 replace hH := hH.call hF39
 refine Go3 7 11 (Ni k33) 12 (Ni u34) 13 (Ni er35) <| Dn <| sw_seq <| sw_sr <| Go1 2 52 (.bool ((er35 : Int) != (0 : Int))) <| Dn <| If rfl (fun hc10 => ?_) (fun hc10 => ?_)
 refine sw_sr <| Go3 3 2 (.slice none 0 0) 3 (.slice none 0 0) 4 (.bool false) <| Dn <| Rt3 rfl rfl rfl rfl ?_
 exact ⟨_, _, [], [], false, rfl, recIs_no (readR_n2 ht4 (by omega) ht17 (by omega) ht36 (by omega)) _ _, (((hH.sb sln).nilRow 3 1).nilRow 5 1).fresh⟩
 refine Sk <| sw_sr <| Go2 2 53 (.slice A25 2 c26) 54 (Ni k33) <| gl_st (st_buildS (e := 3) (zv := .int .i64 0) (m := 1) (bytes := 8) rfl rfl rfl (by kernel_rfl) (by kernel_rfl) rfl (cs := [Ni k33]) (by kernel_rfl) rfl hH ?_)
 clear hH; intro b40 w41 hH
 refine gl_st (Apd (e := 3) (.int .i64 0) 1 8 0 rfl hH rfl rfl rfl (hH.row_reads 2 rfl) (by simp [Value.oneCell']) (by unfold maxLen; omega) (by omega) ?_)
 clear hH; intro v42 w43 hH
 replace hH := hH.row_eq 0 (l' := 3) (xs' := [Ni k1, Ni k14, Ni k33]) rfl (rfl) (rfl)
 obtain ⟨A44, c45, rfl, hl46, hm47⟩ := hH.row_form 0 rfl
 refine Go1 1 8 (.slice A44 3 c45) <| Dn <| sw_region <| Gw0 3 59 (((u2 + u15 : Nat) : Int) + (u34 : Int)) (((u2 + u15) + u34 : Nat) : Int) <| Go1 1 6 (Ni ((u2 + u15) + u34)) <| Dd <| bkN <| sw_next <| sw_region <| Gw0 2 42 (1 + 1) 2 <| Go1 1 10 (.int .i64 2) <| Dd <| sw_again <| swk [(0, .slice Ap p.length cp), (5, Ni k1), (6, Ni ((u2 + u15) + u34)), (8, .slice A44 3 c45), (9, .int .i64 3), (10, .int .i64 2)] <| sw_seq <| sw_sr <| Go1 3 40 (.bool true) <| Dn <| It <| sw_skip <| sw_next <| sw_seq <| sw_block <| sw_sr ?_
 obtain ⟨A48, hk49, hv50⟩ := hp.row.cut (by decide) ((u2 + u15) + u34) p.length (by omega) (by omega)
 refine Go2 2 44 (.slice Ap p.length cp) 45 (Ni ((u2 + u15) + u34)) <| Gq rfl (rd_cut (e := 5) (m := 1) (by kernel_rfl) (by kernel_rfl) rfl (.inr ⟨_, _, rfl, rfl⟩) (.inl ⟨rfl, rfl⟩) hk49) ?_
 have hr51 := RB.tail hv50
 obtain ⟨k52, u53, er54, ht55⟩ : ∃ k u e, takeNum (p.drop ((u2 + u15) + u34)) = (k, u, e) := ⟨_, _, _, rfl⟩
 have hu56 := takeNum_used (p.drop ((u2 + u15) + u34))
 rw [ht55] at hu56
 try simp only [List.length_drop] at hu56
 refine gl_st (Sc rfl rfl (by have h9 := RTakeNum_ct _ (p.drop ((u2 + u15) + u34)) _ (hr51.mono hH.zin); rw [ht55] at h9; exact h9) ?_)
 rintro _ w57 ⟨rfl, hF58⟩
 replace hH := hH.call hF58
 refine Go3 7 11 (Ni k52) 12 (Ni u53) 13 (Ni er54) <| Dn <| sw_seq <| sw_sr <| Go1 2 52 (.bool ((er54 : Int) != (0 : Int))) <| Dn <| If rfl (fun hc12 => ?_) (fun hc12 => ?_)
 refine sw_sr <| Go3 3 2 (.slice none 0 0) 3 (.slice none 0 0) 4 (.bool false) <| Dn <| Rt3 rfl rfl rfl rfl ?_
 exact ⟨_, _, [], [], false, rfl, recIs_no (readR_n3 ht4 (by omega) ht17 (by omega) ht36 (by omega) (by omega) ht55 (by omega)) _ _, (((hH.sb sln).nilRow 3 1).nilRow 5 1).fresh⟩
 refine Sk <| sw_sr <| Go2 2 53 (.slice A44 3 c45) 54 (Ni k52) <| gl_st (st_buildS (e := 3) (zv := .int .i64 0) (m := 1) (bytes := 8) rfl rfl rfl (by kernel_rfl) (by kernel_rfl) rfl (cs := [Ni k52]) (by kernel_rfl) rfl hH ?_)
 clear hH; intro b59 w60 hH
 refine gl_st (Apd (e := 3) (.int .i64 0) 1 8 0 rfl hH rfl rfl rfl (hH.row_reads 3 rfl) (by simp [Value.oneCell']) (by unfold maxLen; omega) (by omega) ?_)
 clear hH; intro v61 w62 hH
 replace hH := hH.row_eq 0 (l' := 4) (xs' := [Ni k1, Ni k14, Ni k33, Ni k52]) rfl (rfl) (rfl)
 obtain ⟨A63, c64, rfl, hl65, hm66⟩ := hH.row_form 0 rfl
 refine Go1 1 8 (.slice A63 4 c64) <| Dn <| sw_region <| Gw0 3 59 ((((u2 + u15) + u34 : Nat) : Int) + (u53 : Int)) ((((u2 + u15) + u34) + u53 : Nat) : Int) <| Go1 1 6 (Ni (((u2 + u15) + u34) + u53)) <| Dd <| bkN <| sw_next <| sw_region <| Gw0 2 42 (2 + 1) 3 <| Go1 1 10 (.int .i64 3) <| Dd <| sw_again <| swk [(0, .slice Ap p.length cp), (5, Ni k1), (6, Ni (((u2 + u15) + u34) + u53)), (8, .slice A63 4 c64), (9, .int .i64 3), (10, .int .i64 3)] <| sw_seq <| sw_sr <| Go1 3 40 (.bool false) <| Dn <| Iz <| sw_exit <| thX <| thX <| bkH <| sw_next <| sw_sr <| Go1 1 14 (.slice none 0 0) <| Dn <| sw_seq <| sw_sr <| Go1 2 61 (.bool ((k1 : Int) == (2 : Int))) <| Dn <| If rfl (fun hc14 => ?_) (fun hc14 => absurd hc14 (by omega))
 clear hc14
 refine sw_sr ?_
 obtain ⟨A67, hk68, hv69⟩ := hp.row.cut (by decide) (((u2 + u15) + u34) + u53) p.length (by omega) (by omega)
 refine Go2 2 63 (.slice Ap p.length cp) 64 (Ni (((u2 + u15) + u34) + u53)) <| Gq rfl (rd_cut (e := 5) (m := 1) (by kernel_rfl) (by kernel_rfl) rfl (.inr ⟨_, _, rfl, rfl⟩) (.inl ⟨rfl, rfl⟩) hk68) ?_
 have hr70 := RB.tail hv69
 refine gl_st (Sc rfl rfl (RTakeBlob_ct _ _ _ (hr70.mono hH.zin)) ?_)
 rintro _ w73 ⟨v71, rfl, hF74⟩
 replace hH := hH.call hF74
 obtain ⟨A75, c76, rfl, hl77, hm78⟩ := hH.row_form 4 rfl
 refine Go3 7 15 (.slice A75 (((takeBlob (p.drop (((u2 + u15) + u34) + u53))).1).length) c76) 16 (Ni ((takeBlob (p.drop (((u2 + u15) + u34) + u53))).2.1)) 17 (Ni ((takeBlob (p.drop (((u2 + u15) + u34) + u53))).2.2)) <| Dn <| sw_seq <| sw_sr <| Go1 2 71 (.bool ((((takeBlob (p.drop (((u2 + u15) + u34) + u53))).2.2 : Nat) : Int) != (0 : Int))) <| Dn <| If rfl (fun hc15 => ?_) (fun hc15 => ?_)
 refine sw_sr <| Go3 3 2 (.slice none 0 0) 3 (.slice none 0 0) 4 (.bool false) <| Dn <| Rt3 rfl rfl rfl rfl ?_
 exact ⟨_, _, [], [], false, rfl, recIs_no (by rw [readR_f2 ht4 (by omega) ht17 (by omega) ht36 (by omega) (by omega) ht55 (by omega), if_pos (by omega)]) _ _, (((hH.sb sln).nilRow 3 1).nilRow 5 1).fresh⟩
 refine Sk <| sw_sr <| Go1 2 14 (.slice A75 (((takeBlob (p.drop (((u2 + u15) + u34) + u53))).1).length) c76) <| Dn ?_
 have hbu := takeBlob_used2 (p.drop (u2 + u15 + u34 + u53))
 rw [List.length_drop] at hbu
 refine sw_region <| Gw0 3 75 (((((u2 + u15) + u34) + u53 : Nat) : Int) + (((takeBlob (p.drop (((u2 + u15) + u34) + u53))).2.1 : Nat) : Int)) (((((u2 + u15) + u34) + u53) + ((takeBlob (p.drop (((u2 + u15) + u34) + u53))).2.1) : Nat) : Int) <| Go1 1 6 (Ni ((((u2 + u15) + u34) + u53) + ((takeBlob (p.drop (((u2 + u15) + u34) + u53))).2.1))) <| Dd <| sw_next <| sw_sr <| Go4 4 76 (.slice A63 4 c64) 77 (.slice A75 (((takeBlob (p.drop (((u2 + u15) + u34) + u53))).1).length) c76) 78 (Ni ((((u2 + u15) + u34) + u53) + ((takeBlob (p.drop (((u2 + u15) + u34) + u53))).2.1))) 79 (.slice Ap p.length cp) <| Gq rfl (Ln (e := 5) rfl) <| Go3 4 2 (.slice A63 4 c64) 3 (.slice A75 (((takeBlob (p.drop (((u2 + u15) + u34) + u53))).1).length) c76) 4 (.bool ((((((u2 + u15) + u34) + u53) + ((takeBlob (p.drop (((u2 + u15) + u34) + u53))).2.1) : Nat) : Int) == ((p.length : Nat) : Int))) <| Dn <| Rt3 rfl rfl rfl rfl ?_
 have hf := readR_f2 ht4 (by omega) ht17 (by omega) ht36 (by omega) (by omega) ht55 (by omega)
 rw [if_neg (by omega)] at hf
 have hk2 : k1 = 2 := by omega
 subst hk2
 by_cases hq : u2 + u15 + u34 + u53 + (takeBlob (p.drop (u2 + u15 + u34 + u53))).2.1 = p.length
 · rw [if_pos (by omega)] at hf
   exact ⟨_, _, [2, ((k14 : Nat) : Int), ((k33 : Nat) : Int), ((k52 : Nat) : Int)], _, _, rfl, .inr ⟨by rw [beq_iff_eq]; omega, _, hf, (rcN_2 _ _ _ _).symm, rfl⟩, (hH.sb (slk (slc (slc (slc (slk sln)))))).fresh⟩
 · rw [if_neg (by omega)] at hf
   exact ⟨_, _, [2, ((k14 : Nat) : Int), ((k33 : Nat) : Int), ((k52 : Nat) : Int)], _, _, rfl, .inl ⟨by rw [beq_eq_false_iff_ne]; omega, hf⟩, (hH.sb (slk (slc (slc (slc (slk sln)))))).fresh⟩
 have hk2 : k1 ≠ 2 := by omega
 refine Sk <| sw_seq <| sw_sr <| Go1 1 10 (.int .i64 0) <| Dn <| sw_block <| sw_unroll <| sw_seq <| sw_sr <| Go1 3 40 (.bool true) <| Dn <| It <| sw_skip <| sw_next <| sw_seq <| sw_block <| sw_sr ?_
 obtain ⟨A79, hk80, hv81⟩ := hp.row.cut (by decide) u2 p.length (by omega) (by omega)
 refine Go2 2 44 (.slice Ap p.length cp) 45 (Ni u2) <| Gq rfl (rd_cut (e := 5) (m := 1) (by kernel_rfl) (by kernel_rfl) rfl (.inr ⟨_, _, rfl, rfl⟩) (.inl ⟨rfl, rfl⟩) hk80) ?_
 have hr82 := RB.tail hv81
 obtain ⟨k83, u84, er85, ht86⟩ : ∃ k u e, takeNum (p.drop u2) = (k, u, e) := ⟨_, _, _, rfl⟩
 have hu87 := takeNum_used (p.drop u2)
 rw [ht86] at hu87
 try simp only [List.length_drop] at hu87
 refine gl_st (Sc rfl rfl (by have h9 := RTakeNum_ct _ (p.drop u2) _ (hr82.mono hH.zin); rw [ht86] at h9; exact h9) ?_)
 rintro _ w88 ⟨rfl, hF89⟩
 replace hH := hH.call hF89
 refine Go3 7 11 (Ni k83) 12 (Ni u84) 13 (Ni er85) <| Dn <| sw_seq <| sw_sr <| Go1 2 52 (.bool ((er85 : Int) != (0 : Int))) <| Dn <| If rfl (fun hc17 => ?_) (fun hc17 => ?_)
 refine sw_sr <| Go3 3 2 (.slice none 0 0) 3 (.slice none 0 0) 4 (.bool false) <| Dn <| Rt3 rfl rfl rfl rfl ?_
 exact ⟨_, _, [], [], false, rfl, recIs_no (readR_n1 ht4 (by omega) ht86 (by omega)) _ _, (((hH.sb sln).nilRow 3 1).nilRow 5 1).fresh⟩
 refine Sk <| sw_sr <| Go2 2 53 (.slice (some ⟨b8, 0, none⟩) 1 1) 54 (Ni k83) <| gl_st (st_buildS (e := 3) (zv := .int .i64 0) (m := 1) (bytes := 8) rfl rfl rfl (by kernel_rfl) (by kernel_rfl) rfl (cs := [Ni k83]) (by kernel_rfl) rfl hH ?_)
 clear hH; intro b90 w91 hH
 refine gl_st (Apd (e := 3) (.int .i64 0) 1 8 0 rfl hH rfl rfl rfl (hH.row_reads 1 rfl) (by simp [Value.oneCell']) (by unfold maxLen; omega) (by omega) ?_)
 clear hH; intro v92 w93 hH
 replace hH := hH.row_eq 0 (l' := 2) (xs' := [Ni k1, Ni k83]) rfl (rfl) (rfl)
 obtain ⟨A94, c95, rfl, hl96, hm97⟩ := hH.row_form 0 rfl
 refine glo 1 [(0, .slice Ap p.length cp), (5, Ni k1), (6, Ni u2), (8, .slice A94 2 c95), (9, .int .i64 2), (10, .int .i64 0), (12, Ni u84)] <| Dn <| sw_region <| Gw0 3 59 ((u2 : Int) + (u84 : Int)) ((u2 + u84 : Nat) : Int) <| Go1 1 6 (Ni (u2 + u84)) <| Dd <| bkN <| sw_next <| sw_region <| Gw0 2 42 (0 + 1) 1 <| Go1 1 10 (.int .i64 1) <| Dd <| sw_again <| swk [(0, .slice Ap p.length cp), (5, Ni k1), (6, Ni (u2 + u84)), (8, .slice A94 2 c95), (9, .int .i64 2), (10, .int .i64 1)] <| sw_seq <| sw_sr <| Go1 3 40 (.bool true) <| Dn <| It <| sw_skip <| sw_next <| sw_seq <| sw_block <| sw_sr ?_
 obtain ⟨A98, hk99, hv100⟩ := hp.row.cut (by decide) (u2 + u84) p.length (by omega) (by omega)
 refine Go2 2 44 (.slice Ap p.length cp) 45 (Ni (u2 + u84)) <| Gq rfl (rd_cut (e := 5) (m := 1) (by kernel_rfl) (by kernel_rfl) rfl (.inr ⟨_, _, rfl, rfl⟩) (.inl ⟨rfl, rfl⟩) hk99) ?_
 have hr101 := RB.tail hv100
 obtain ⟨k102, u103, er104, ht105⟩ : ∃ k u e, takeNum (p.drop (u2 + u84)) = (k, u, e) := ⟨_, _, _, rfl⟩
 have hu106 := takeNum_used (p.drop (u2 + u84))
 rw [ht105] at hu106
 try simp only [List.length_drop] at hu106
 refine gl_st (Sc rfl rfl (by have h9 := RTakeNum_ct _ (p.drop (u2 + u84)) _ (hr101.mono hH.zin); rw [ht105] at h9; exact h9) ?_)
 rintro _ w107 ⟨rfl, hF108⟩
 replace hH := hH.call hF108
 refine Go3 7 11 (Ni k102) 12 (Ni u103) 13 (Ni er104) <| Dn <| sw_seq <| sw_sr <| Go1 2 52 (.bool ((er104 : Int) != (0 : Int))) <| Dn <| If rfl (fun hc19 => ?_) (fun hc19 => ?_)
 refine sw_sr <| Go3 3 2 (.slice none 0 0) 3 (.slice none 0 0) 4 (.bool false) <| Dn <| Rt3 rfl rfl rfl rfl ?_
 exact ⟨_, _, [], [], false, rfl, recIs_no (readR_n2 ht4 (by omega) ht86 (by omega) ht105 (by omega)) _ _, (((hH.sb sln).nilRow 3 1).nilRow 5 1).fresh⟩
 refine Sk <| sw_sr <| Go2 2 53 (.slice A94 2 c95) 54 (Ni k102) <| gl_st (st_buildS (e := 3) (zv := .int .i64 0) (m := 1) (bytes := 8) rfl rfl rfl (by kernel_rfl) (by kernel_rfl) rfl (cs := [Ni k102]) (by kernel_rfl) rfl hH ?_)
 clear hH; intro b109 w110 hH
 refine gl_st (Apd (e := 3) (.int .i64 0) 1 8 0 rfl hH rfl rfl rfl (hH.row_reads 2 rfl) (by simp [Value.oneCell']) (by unfold maxLen; omega) (by omega) ?_)
 clear hH; intro v111 w112 hH
 replace hH := hH.row_eq 0 (l' := 3) (xs' := [Ni k1, Ni k83, Ni k102]) rfl (rfl) (rfl)
 obtain ⟨A113, c114, rfl, hl115, hm116⟩ := hH.row_form 0 rfl
 refine Go1 1 8 (.slice A113 3 c114) <| Dn <| sw_region <| Gw0 3 59 (((u2 + u84 : Nat) : Int) + (u103 : Int)) (((u2 + u84) + u103 : Nat) : Int) <| Go1 1 6 (Ni ((u2 + u84) + u103)) <| Dd <| bkN <| sw_next <| sw_region <| Gw0 2 42 (1 + 1) 2 <| Go1 1 10 (.int .i64 2) <| Dd <| sw_again <| swk [(0, .slice Ap p.length cp), (5, Ni k1), (6, Ni ((u2 + u84) + u103)), (8, .slice A113 3 c114), (9, .int .i64 2), (10, .int .i64 2)] <| sw_seq <| sw_sr <| Go1 3 40 (.bool false) <| Dn <| Iz <| sw_exit <| thX <| thX <| bkH <| sw_next <| sw_sr <| Go1 1 14 (.slice none 0 0) <| Dn <| sw_seq <| sw_sr <| Go1 2 61 (.bool ((k1 : Int) == (2 : Int))) <| Dn <| If rfl (fun hc21 => absurd hc21 (by omega)) (fun hc21 => ?_)
 clear hc21
 refine Sk <| sw_sr <| Go4 4 76 (.slice A113 3 c114) 77 (.slice none 0 0) 78 (Ni ((u2 + u84) + u103)) 79 (.slice Ap p.length cp) <| Gq rfl (Ln (e := 5) rfl) <| Go3 4 2 (.slice A113 3 c114) 3 (.slice none 0 0) 4 (.bool ((((u2 + u84) + u103 : Nat) : Int) == ((p.length : Nat) : Int))) <| Dn <| Rt3 rfl rfl rfl rfl ?_
 have hf := readR_f1 ht4 (by omega) ht86 (by omega) ht105 (by omega) (by omega) (by omega)
 by_cases hq : u2 + u84 + u103 = p.length
 · rw [if_pos (by omega)] at hf
   exact ⟨_, _, [((k1 : Nat) : Int), ((k83 : Nat) : Int), ((k102 : Nat) : Int)], [], _, rfl, .inr ⟨by rw [beq_iff_eq]; omega, _, hf, (rcN_1 (by omega) _ _ _ _).symm, rfl⟩, ((hH.sb (slk sln)).nilRow 5 1).fresh⟩
 · rw [if_neg (by omega)] at hf
   exact ⟨_, _, [((k1 : Nat) : Int), ((k83 : Nat) : Int), ((k102 : Nat) : Int)], [], _, rfl, .inl ⟨by rw [beq_eq_false_iff_ne]; omega, hf⟩, ((hH.sb (slk sln)).nilRow 5 1).fresh⟩
end Go.Proofs.YtajapgjemefoiaaGreatDoor
/- Layer 19, the document's own answer (muntinref19): an entry is put, a record is done: what they answer. -/
set_option maxRecDepth 100000
set_option maxHeartbeats 4000000
set_option linter.unusedVariables false
set_option linter.unusedSimpArgs false
namespace Go.Proofs.YtajapgjemefoiaaGreatDoor
open Go.RowKit Go.SW
abbrev rlO (g xb : Nat) (c : Cn) (ve : Value) (fi bad : Int) : Own := .blk g 91 [.pointer (some ⟨xb, 0, none⟩), .int .i64 ((c.term : Nat) : Int), .int .i64 ((c.vote : Nat) : Int), .int .i64 ((c.ix : Nat) : Int), .int .i64 ((c.ah : Nat) : Int), ve, .int .i64 fi, .int .i64 bad]

theorem RPut19_ct (g xb c0 ix tm kd : Nat) (te vo ah fi bd : Int) (ve vd : Value) (es : EQ) (d : List UInt8) (w : World) (hM : Mine w [.blk g 91 [.pointer (some ⟨xb, 0, none⟩), .int .i64 te, .int .i64 vo, .int .i64 ((c0 : Nat) : Int), .int .i64 ah, ve, .int .i64 fi, .int .i64 bd]]) (hE : Row (off w (blksOf [.blk g 91 [.pointer (some ⟨xb, 0, none⟩), .int .i64 te, .int .i64 vo, .int .i64 ((c0 : Nat) : Int), .int .i64 ah, ve, .int .i64 fi, .int .i64 bd]])) ve 4 es.length (rowC enC es)) (hV : EnV es) (hd : RB (off w (blksOf [.blk g 91 [.pointer (some ⟨xb, 0, none⟩), .int .i64 te, .int .i64 vo, .int .i64 ((c0 : Nat) : Int), .int .i64 ah, ve, .int .i64 fi, .int .i64 bd]])) vd d) (hl : es.length ≤ 1000000) (hx : ix < 9223372036854775808) (hcx : c0 + es.length < 9223372036854775808) (hdl : d.length ≤ 1048576) :
    Fun Tryz.prog 127 [.pointer (some ⟨g, 0, none⟩), .agg #[.int .i64 ((ix : Nat) : Int), .int .i64 ((tm : Nat) : Int), .int .i64 ((kd : Nat) : Int), vd]] w fun v w' => (v = .bool false ∧ (ix ≤ c0 ∨ c0 + es.length < ix - 1) ∧ Turn w w' [.blk g 91 [.pointer (some ⟨xb, 0, none⟩), .int .i64 te, .int .i64 vo, .int .i64 ((c0 : Nat) : Int), .int .i64 ah, ve, .int .i64 fi, .int .i64 bd]] [.blk g 91 [.pointer (some ⟨xb, 0, none⟩), .int .i64 te, .int .i64 vo, .int .i64 ((c0 : Nat) : Int), .int .i64 ah, ve, .int .i64 fi, .int .i64 bd]]) ∨ (∃ v1 vd2, v = .bool true ∧ ¬ (ix ≤ c0 ∨ c0 + es.length < ix - 1) ∧ Turn w w' [.blk g 91 [.pointer (some ⟨xb, 0, none⟩), .int .i64 te, .int .i64 vo, .int .i64 ((c0 : Nat) : Int), .int .i64 ah, ve, .int .i64 fi, .int .i64 bd]] [.blk g 91 [.pointer (some ⟨xb, 0, none⟩), .int .i64 te, .int .i64 vo, .int .i64 ((c0 : Nat) : Int), .int .i64 ah, v1, .int .i64 fi, .int .i64 bd], .row v1 64 4 (es.take (ix - c0 - 1) ++ [((⟨ix, tm, kd, d⟩ : En), vd2)]).length (rowC enC (es.take (ix - c0 - 1) ++ [((⟨ix, tm, kd, d⟩ : En), vd2)])), .row vd2 5 1 d.length (bv d)]) := by
 obtain ⟨Ae, ce, rfl, he1, he2⟩ := hE.form
 obtain ⟨Ad, cd, rfl, hd1, hd2⟩ := hd.row.form
 refine fun_of_sw Tryz.func127 rfl 58 rfl rfl ?_
 have hH := Hp.start_mine hM
 refine sw_sr <| gl_st (Bx [Ni ix, Ni tm, Ni kd, .slice Ad d.length cd] rfl hH ?_)
 clear hH; intro b1 w2 hH
 refine Go0 1 <| Dn <| sw_seq <| Dr hH (slk (slk sln)) ?_
 clear hH; intro w3 hH hS9
 refine Gp1 3 [0,1,2] 9 (Pp g 3) hS9 <| Dq 3 rfl (fun _ hS => (Lk 0 hS rfl rfl rfl)) hS9 <| Gp1 3 [4,5,6] 13 (Pp g 5) hS9 <| Dq 7 rfl (fun _ hS => (Lk 0 hS rfl rfl rfl)) hS9 <| Dq 8 rfl (fun _ hS => (Ln (e := 64) rfl)) hS9 <| Dw0 1 [9] 16 ((c0 : Int) + ((es.length : Nat) : Int)) ((c0 + es.length : Nat) : Int) hS9 <| Gp1 1 [10] 5 (Ni (c0 + es.length)) hS9 <| gdn [(0, Pp g 0), (3, Pp b1 0), (5, Ni (c0 + es.length))] <| sw_next <| sw_seq <| sw_seq <| Dr hH (slk (slk sln)) ?_
 clear hH; intro w4 hH hS9
 refine Gp1 1 [0] 17 (Pp b1 0) hS9 <| Dq 1 rfl (fun _ hS => (Lk 1 hS rfl rfl rfl)) hS9 <| Gp1 3 [2,3,4] 21 (Pp g 3) hS9 <| Dq 5 rfl (fun _ hS => (Lk 0 hS rfl rfl rfl)) hS9 <| Gp1 2 [6,7] 24 (.bool (decide ((ix : Int) ≤ (c0 : Int)))) hS9 <| Di 24 rfl (fun hg1 => ?_) (fun hg1 => ?_)
 refine Gp1 6 [8,9,10,11,12,13] 30 (.bool true) hS9 <| gdn [(0, Pp g 0), (3, Pp b1 0), (30, .bool true)] <| sw_next <| It <| sw_sr <| Go1 1 4 (.bool false) <| Dn <| Rt1 rfl rfl ?_
 replace hH := (hH.sb (slk sln)).n1
 exact .inl ⟨rfl, by omega, hH.turned⟩
 refine Gp1 1 [8] 25 (Pp b1 0) hS9 <| Dq 9 rfl (fun _ hS => (Lk 1 hS rfl rfl rfl)) hS9 <| Dw0 1 [10] 27 ((ix : Int) - 1) ((ix - 1 : Nat) : Int) hS9 <| Gp1 3 [11,12,13] 30 (.bool (decide (((ix - 1 : Nat) : Int) > ((c0 + es.length : Nat) : Int)))) hS9 <| gdn [(0, Pp g 0), (3, Pp b1 0), (30, .bool (decide (((ix - 1 : Nat) : Int) > ((c0 + es.length : Nat) : Int))))] <| sw_next <| If rfl (fun hc3 => ?_) (fun hc3 => ?_)
 refine sw_sr <| Go1 1 4 (.bool false) <| Dn <| Rt1 rfl rfl ?_
 replace hH := (hH.sb (slk sln)).n1
 exact .inl ⟨rfl, by omega, hH.turned⟩
 refine Sk <| sw_sr <| Go1 1 6 (.slice none 0 0) ?_
 replace hH := hH.nilRow 64 4
 refine Dn <| sw_seq <| Dr hH (slk (slk sln)) ?_
 clear hH; intro w5 hH hS9
 refine Gp2 4 [0,1,2,3] 31 (.slice none 0 0) 34 (Pp g 5) hS9 <| Dq 4 rfl (fun _ hS => (Lk 0 hS rfl rfl rfl)) hS9 <| Gp1 1 [5] 36 (Pp b1 0) hS9 <| Dq 6 rfl (fun _ hS => (Lk 1 hS rfl rfl rfl)) hS9 <| Gp1 3 [7,8,9] 40 (Pp g 3) hS9 <| Dq 10 rfl (fun _ hS => (Lk 0 hS rfl rfl rfl)) hS9 <| Dw0 1 [11] 42 ((ix : Int) - (c0 : Int)) ((ix - c0 : Nat) : Int) hS9 <| Dw0 1 [12] 43 (((ix - c0 : Nat) : Int) - 1) (((ix - c0 - 1) : Nat) : Int) hS9 ?_
 obtain ⟨A9, hc9, hv9⟩ := hE.cut (by decide) 0 (ix - c0 - 1) (by omega) (by omega)
 have hR9 := en_take (by omega) hv9
 refine Dq 13 rfl (fun _ hS => (rd_cut (e := 64) (m := 4) (by kernel_rfl) (by kernel_rfl) rfl (.inl ⟨rfl, rfl⟩) (.inr ⟨_, _, rfl, rfl⟩) hc9)) hS9 <| gdk [(0, Pp g 0), (3, Pp b1 0), (6, .slice none 0 0), (31, .slice none 0 0), (44, .slice A9 ((ix - c0 - 1) - 0) (ce - 0))] <| gds 14 (Apd (e := 64) (.agg #[.int .i64 0, .int .i64 0, .int .i64 0, .slice none 0 0]) 4 48 2 rfl hH rfl rfl rfl (hR9.mono hH.zin) (en_one (enV_take hV _)) (by simp only [List.length_take]; unfold maxLen; omega) (by simp only [List.length_take]; omega) ?_)
 clear hH; intro v6 w7 hH
 replace hH := hH.row_eq 2 (l' := (es.take (ix - c0 - 1)).length) (xs' := rowC enC (es.take (ix - c0 - 1))) rfl (Nat.zero_add _) (List.nil_append _)
 obtain ⟨A8, c9, rfl, hl10, hm11⟩ := hH.row_form 2 rfl
 refine Nl (hH.sb (slk (slk sln))) fun hS9 => Gp1 1 [15] 6 (.slice A8 ((es.take (ix - c0 - 1)).length) c9) hS9 <| gdn [(0, Pp g 0), (3, Pp b1 0), (6, .slice A8 ((es.take (ix - c0 - 1)).length) c9)] <| sw_next <| sw_sr <| gl_st (st_buildS0 (e := 5) (m := 1) rfl rfl rfl (by kernel_rfl) (by kernel_rfl) hH ?_)
 clear hH; intro b12 w13 hH
 refine Go1 1 47 (Pp b1 3) <| Gq rfl (Lk 1 hH rfl rfl rfl) <| gl_st (Apd (e := 5) (.int .u8 0) 1 1 3 rfl hH rfl rfl rfl (hd.row.mono hH.zin) (bv_one _) (by unfold maxLen; omega) (by omega) ?_)
 clear hH; intro v14 w15 hH
 replace hH := hH.row_eq 3 (l' := d.length) (xs' := bv d) rfl (Nat.zero_add _) (List.nil_append _)
 obtain ⟨A16, c17, rfl, hl18, hm19⟩ := hH.row_form 3 rfl
 refine Go1 1 50 (Pp b1 3) <| gl_st (Ks 1 (.slice A16 d.length c17) rfl hH rfl rfl ?_)
 clear hH; intro w20 hH
 refine Dn <| sw_sr <| Go2 2 51 (Pp g 0) 52 (.slice A8 ((es.take (ix - c0 - 1)).length) c9) <| Gq rfl (La 1 [Ni ix, Ni tm, Ni kd, .slice A16 d.length c17] hH rfl rfl) <| gl_st (st_buildS (e := 64) (zv := .agg #[.int .i64 0, .int .i64 0, .int .i64 0, .slice none 0 0]) (m := 4) (bytes := 48) rfl rfl rfl (by kernel_rfl) (by kernel_rfl) rfl (cs := [Ni ix, Ni tm, Ni kd, .slice A16 d.length c17]) (by kernel_rfl) rfl hH ?_)
 clear hH; intro b21 w22 hH
 refine gl_st (Apd (e := 64) (.agg #[.int .i64 0, .int .i64 0, .int .i64 0, .slice none 0 0]) 4 48 2 rfl hH rfl rfl rfl (hH.row_reads 4 rfl) (by simp [Value.oneCell']) (by simp only [List.length_take]; unfold maxLen; omega) (by simp only [List.length_take]; omega) ?_)
 clear hH; intro v23 w24 hH
 replace hH := hH.row_eq 2 (l' := (es.take (ix - c0 - 1) ++ [((⟨ix, tm, kd, d⟩ : En), (Value.slice A16 d.length c17))]).length) (xs' := rowC enC (es.take (ix - c0 - 1) ++ [((⟨ix, tm, kd, d⟩ : En), (Value.slice A16 d.length c17))])) rfl (by rw [List.length_append]; rfl) (by rw [← rowC_app]; rfl)
 obtain ⟨A25, c26, rfl, hl27, hm28⟩ := hH.row_form 2 rfl
 refine Go1 2 57 (Pp g 5) <| gl_st (Ks 0 (.slice A25 ((es.take (ix - c0 - 1) ++ [((⟨ix, tm, kd, d⟩ : En), (Value.slice A16 d.length c17))]).length) c26) rfl hH rfl rfl ?_)
 clear hH; intro w29 hH
 refine Dn <| sw_sr <| Go1 1 4 (.bool true) <| Dn <| Rt1 rfl rfl ?_
 replace hH := hH.fr4.fr4.fr3
 replace hH := (hH.sb (slk (slk (slk sln)))).n3
 exact .inr ⟨_, _, rfl, by omega, hH.turned⟩
theorem RPutP_ct (g xb : Nat) (c : Cn) (fi bad : Int) (ve vd : Value) (es : EQ) (e : En) (pl : Pl) (w : World) (hM : Mine w [rlO g xb c ve fi bad, plO pl]) (hL : CnR pl c es ve) (hd : RB (off w (blksOf [rlO g xb c ve fi bad, plO pl])) vd e.d)
    (hl : es.length ≤ 1000000) (hcx : c.ix + es.length < 9223372036854775808) (h1 : e.ix < 9223372036854775808) (h2 : e.tm < 9223372036854775808) (h3 : e.kd < 9223372036854775808) (hdl : e.d.length ≤ 1048576) :
    Fun Tryz.prog 127 [.pointer (some ⟨g, 0, none⟩), .agg #[.int .i64 ((e.ix : Nat) : Int), .int .i64 ((e.tm : Nat) : Int), .int .i64 ((e.kd : Nat) : Int), vd]] w fun v w' => PutPost (rlO g xb c ve fi bad) (fun v2 => rlO g xb c v2 fi bad) c pl e w v w' := by
  obtain ⟨ix, tm, kd, d⟩ := e
  simp only at hd h1 h2 h3 hdl ⊢
  refine (RPut19_ct g xb c.ix ix tm kd c.term c.vote c.ah fi bad ve vd es d w (mine_head hM) (hL.row.mono (pz_off1 hM)) hL.env (hd.mono (off_head _ _ _)) hl h1 hcx hdl).mono ?_
  have hlen := hL.len
  rintro v w' (⟨rfl, hn, ht⟩ | ⟨v1, vd2, rfl, hn, ht⟩)
  · refine .inl ⟨?_, rfl, keep_pool hM ht⟩
    unfold putC
    rw [if_pos (by simp only; omega)]
  · obtain ⟨p2, hle, hr, hd2, ht2⟩ := put_pool hM ht
    have hp : putC c ⟨ix, tm, kd, d⟩ = some { c with es := c.es.take (ix - c.ix - 1) ++ [⟨ix, tm, kd, d⟩] } := by
      unfold putC
      rw [if_neg (by simp only; omega)]
    exact .inr ⟨_, _, v1, p2, hp, rfl, cnR_put hL hle hp hr hd2 hdl h1 h2 h3, hle, ht2⟩
def RDoPost (g xb : Nat) (c : Cn) (ve : Value) (fi bad : Int) (pl : Pl) (r : Rc) (first : Bool) (w : World) (v : Value) (w' : World) : Prop :=
  ∃ bb o2, v = .bool bb ∧ ((doC c r first = none ∧ bb = false) ∨ (∃ c2 es2 ve2 pl2, doC c r first = some c2 ∧ bb = true ∧ CnR pl2 c2 es2 ve2 ∧ o2 = [rlO g xb c2 ve2 fi bad, plO pl2])) ∧ Turn w w' [rlO g xb c ve fi bad, plO pl] [.grp o2]
theorem rdo_one {g xb : Nat} {c : Cn} {ve : Value} {fi bad : Int} {pl : Pl} {k a b cc : Nat} {d : List UInt8} {first : Bool} {w w' : World} {v : Value} (hk : k = 2) (h : PutPost (rlO g xb c ve fi bad) (fun v2 => rlO g xb c v2 fi bad) c pl ⟨a, b, cc, d⟩ w v w') :
    RDoPost g xb c ve fi bad pl ⟨k, a, b, cc, d⟩ first w v w' := by
  have e : doC c ⟨k, a, b, cc, d⟩ first = putC c ⟨a, b, cc, d⟩ := by
    unfold doC
    rw [if_neg (by simp only; omega), if_pos hk]
  unfold RDoPost
  rw [e]
  rcases h with ⟨h1, rfl, h3⟩ | ⟨c2, es2, ve2, pl2, h1, rfl, h4, h5, h6⟩
  · exact ⟨false, [], rfl, .inl ⟨h1, rfl⟩, Hp.close (l := []) (r := []) (Hp.sublist h3 (List.nil_sublist _))⟩
  · have e2 : rlO g xb c ve2 fi bad = rlO g xb c2 ve2 fi bad := by obtain ⟨_, _, rfl⟩ := putC_some h1; rfl
    refine ⟨true, _, rfl, .inr ⟨c2, es2, ve2, pl2, h1, rfl, h4, rfl⟩, Hp.close (r := []) ?_⟩
    rw [List.append_nil, ← e2]; exact h6
theorem rdo_ok {g xb : Nat} {c c2 : Cn} {ve ve2 : Value} {fi bad : Int} {pl pl2 : Pl} {es2 : EQ} {r : Rc} {first : Bool} {w w' : World} (h1 : doC c r first = some c2) (h4 : CnR pl2 c2 es2 ve2) (h6 : Turn w w' [rlO g xb c ve fi bad, plO pl] [rlO g xb c2 ve2 fi bad, plO pl2]) : RDoPost g xb c ve fi bad pl r first w (.bool true) w' :=
  ⟨true, _, rfl, .inr ⟨c2, es2, ve2, pl2, h1, rfl, h4, rfl⟩, Hp.close (r := []) (by rw [List.append_nil]; exact h6)⟩
theorem rdo_no {g xb : Nat} {c : Cn} {ve : Value} {fi bad : Int} {pl : Pl} {r : Rc} {first : Bool} {w w' : World} {os : List Own} (h1 : doC c r first = none) (h6 : Turn w w' [rlO g xb c ve fi bad, plO pl] os) : RDoPost g xb c ve fi bad pl r first w (.bool false) w' :=
  ⟨false, [], rfl, .inl ⟨h1, rfl⟩, Hp.close (l := []) (r := []) (Hp.sublist h6 (List.nil_sublist _))⟩
theorem rcN_len (r : Rc) : (rcN r).length = if r.k = 2 then 4 else 3 := by unfold rcN; split <;> rfl
theorem rcN_0 (k a b cc : Nat) (d : List UInt8) : (iv (rcN ⟨k, a, b, cc, d⟩))[0]? = some (.int .i64 ((k : Nat) : Int)) := by
  unfold rcN
  split
  · rename_i h; simp only at h; subst h; rfl
  · rfl
theorem rcN_a (k a b cc : Nat) (d : List UInt8) : (iv (rcN ⟨k, a, b, cc, d⟩))[1]? = some (.int .i64 ((a : Nat) : Int)) := by unfold rcN; split <;> rfl
theorem rcN_b (k a b cc : Nat) (d : List UInt8) : (iv (rcN ⟨k, a, b, cc, d⟩))[2]? = some (.int .i64 ((b : Nat) : Int)) := by unfold rcN; split <;> rfl
theorem rcN_c {k : Nat} (h : k = 2) (a b cc : Nat) (d : List UInt8) : (iv (rcN ⟨k, a, b, cc, d⟩))[3]? = some (.int .i64 ((cc : Nat) : Int)) := by unfold rcN; rw [if_pos h]; rfl

theorem RDo19_ct (g xb : Nat) (c : Cn) (fi bad : Int) (ve vn vd : Value) (es : EQ) (pl : Pl) (k a b cc : Nat) (d : List UInt8) (first : Bool) (w : World) (hM : Mine w [rlO g xb c ve fi bad, plO pl]) (hL : CnR pl c es ve) (hN : Row (off w (blksOf [rlO g xb c ve fi bad, plO pl])) vn 1 (rcN ⟨k, a, b, cc, d⟩).length (iv (rcN ⟨k, a, b, cc, d⟩))) (hd : RB (off w (blksOf [rlO g xb c ve fi bad, plO pl])) vd d) (hk : k = 1 ∨ k = 2 ∨ k = 3) (hl : es.length ≤ 1000000) (hcx : c.ix + es.length < 9223372036854775808) (ha : a < 9223372036854775808) (hb : b < 9223372036854775808) (hcc : cc < 9223372036854775808) (hdl : d.length ≤ 1048576) :
    Fun Tryz.prog 100 [.pointer (some ⟨g, 0, none⟩), vn, vd, .bool first] w fun v w' => RDoPost g xb c ve fi bad pl ⟨k, a, b, cc, d⟩ first w v w' := by
 obtain ⟨Ae, ce, rfl, he1, he2⟩ := hL.row.form
 obtain ⟨An, cn, rfl, hn1, hn2⟩ := hN.form
 obtain ⟨Ad, cd, rfl, hd1, hd2⟩ := hd.row.form
 have hnl := rcN_len ⟨k, a, b, cc, d⟩
 simp only at hnl
 have hn3 : 3 ≤ (rcN ⟨k, a, b, cc, d⟩).length := by rw [hnl]; split <;> omega
 refine fun_of_sw Tryz.func100 rfl 58 rfl rfl ?_
 have hH := Hp.start_mine hM
 refine sw_sr <| Go0 1 <| Dn <| sw_seq <| sw_sr ?_
 obtain ⟨p1, hi3, hp2⟩ := hN.idx 0 (by omega) (by decide)
 refine Go1 1 9 (.slice An ((rcN ⟨k, a, b, cc, d⟩).length) cn) <| Gq rfl (Ix (e := 3) 1 rfl rfl hi3) <| Gq rfl (rd_load (by kernel_rfl) rfl (hH.zin _ _ (hp2 0 _ (by decide) (rcN_0 _ _ _ _ _)))) <| Go1 1 12 (.bool ((k : Int) == (3 : Int))) <| Dn <| If rfl (fun hc1 => ?_) (fun hc1 => ?_)
 refine sw_sr ?_
 obtain ⟨p4, hi6, hp5⟩ := hN.idx 1 (by omega) (by decide)
 refine Go2 2 13 (Pp g 0) 14 (.slice An ((rcN ⟨k, a, b, cc, d⟩).length) cn) <| Gq rfl (Ix (e := 3) 1 rfl rfl hi6) <| Gq rfl (rd_load (by kernel_rfl) rfl (hH.zin _ _ (hp5 0 _ (by decide) (rcN_a _ _ _ _ _)))) <| Go1 2 18 (Pp g 3) <| gl_st (Ks 0 (Ni a) rfl hH rfl rfl ?_)
 clear hH; intro w7 hH
 refine Dn <| sw_sr ?_
 obtain ⟨p8, hi10, hp9⟩ := hN.idx 2 (by omega) (by decide)
 refine Go2 2 19 (Pp g 0) 20 (.slice An ((rcN ⟨k, a, b, cc, d⟩).length) cn) <| Gq rfl (Ix (e := 3) 1 rfl rfl hi10) <| Gq rfl (rd_load (by kernel_rfl) rfl (hH.zin _ _ (hp9 0 _ (by decide) (rcN_b _ _ _ _ _)))) <| Go1 2 24 (Pp g 4) <| gl_st (Ks 0 (Ni b) rfl hH rfl rfl ?_)
 clear hH; intro w11 hH
 refine Dn <| sw_sr <| Go1 3 27 (Pp g 5) <| gl_st (Ks 0 (.slice none 0 0) rfl hH rfl rfl ?_)
 clear hH; intro w12 hH
 refine Dn <| sw_sr <| Go1 2 8 (.bool first) <| Dn <| Rt1 rfl rfl ?_
 replace hH := (hH.sb (slk (slk sln))).n2
 cases first with
 | false => exact rdo_no (by unfold doC; rw [if_neg (by simp only; omega), if_neg (by simp only; omega), if_neg (by decide)]) hH.turned
 | true => exact rdo_ok (c2 := { c with ix := a, ah := b, es := [] }) (by unfold doC; rw [if_neg (by simp only; omega), if_neg (by simp only; omega), if_pos rfl]) (CnR.nil pl _ rfl) hH.turned
 refine Sk <| sw_seq <| sw_sr ?_
 obtain ⟨p13, hi15, hp14⟩ := hN.idx 0 (by omega) (by decide)
 refine Go1 1 29 (.slice An ((rcN ⟨k, a, b, cc, d⟩).length) cn) <| Gq rfl (Ix (e := 3) 1 rfl rfl hi15) <| Gq rfl (rd_load (by kernel_rfl) rfl (hH.zin _ _ (hp14 0 _ (by decide) (rcN_0 _ _ _ _ _)))) <| Go1 1 32 (.bool ((k : Int) == (1 : Int))) <| Dn <| If rfl (fun hc2 => ?_) (fun hc2 => ?_)
 have hk1 : k = 1 := by omega
 refine sw_sr ?_
 obtain ⟨p16, hi18, hp17⟩ := hN.idx 1 (by omega) (by decide)
 refine Go2 2 33 (Pp g 0) 34 (.slice An ((rcN ⟨k, a, b, cc, d⟩).length) cn) <| Gq rfl (Ix (e := 3) 1 rfl rfl hi18) <| Gq rfl (rd_load (by kernel_rfl) rfl (hH.zin _ _ (hp17 0 _ (by decide) (rcN_a _ _ _ _ _)))) <| Go1 2 38 (Pp g 1) <| gl_st (Ks 0 (Ni a) rfl hH rfl rfl ?_)
 clear hH; intro w19 hH
 refine Dn <| sw_sr ?_
 obtain ⟨p20, hi22, hp21⟩ := hN.idx 2 (by omega) (by decide)
 refine Go2 2 39 (Pp g 0) 40 (.slice An ((rcN ⟨k, a, b, cc, d⟩).length) cn) <| Gq rfl (Ix (e := 3) 1 rfl rfl hi22) <| Gq rfl (rd_load (by kernel_rfl) rfl (hH.zin _ _ (hp21 0 _ (by decide) (rcN_b _ _ _ _ _)))) <| Go1 2 44 (Pp g 2) <| gl_st (Ks 0 (Ni b) rfl hH rfl rfl ?_)
 clear hH; intro w23 hH
 refine Dn <| sw_sr <| Go1 1 8 (.bool true) <| Dn <| Rt1 rfl rfl ?_
 replace hH := (hH.sb (slk (slk sln))).n2
 exact rdo_ok (c2 := { c with term := a, vote := b }) (by unfold doC; rw [if_pos hk1]) ⟨hL.fst, hL.row, hL.ok⟩ hH.turned
 refine Sk <| sw_seq ?_
 have hk2 : k = 2 := by omega
 have hn4 : (rcN ⟨k, a, b, cc, d⟩).length = 4 := by rw [hnl, if_pos hk2]
 refine Dr hH sln ?_
 clear hH; intro w24 hH hS9
 obtain ⟨p25, hi27, hp26⟩ := hN.idx 1 (by omega) (by decide)
 refine Gp2 2 [0,1] 45 (Pp g 0) 46 (.slice An ((rcN ⟨k, a, b, cc, d⟩).length) cn) hS9 <| Dq 2 rfl (fun _ hS => (Ix (e := 3) 1 rfl rfl hi27)) hS9 <| Dq 3 rfl (fun _ hS => (rd_load (by kernel_rfl) rfl (hS.zin _ _ (hp26 0 _ (by decide) (rcN_a _ _ _ _ _))))) hS9 ?_
 obtain ⟨p28, hi30, hp29⟩ := hN.idx 2 (by omega) (by decide)
 refine Gp1 1 [4] 49 (.slice An ((rcN ⟨k, a, b, cc, d⟩).length) cn) hS9 <| Dq 5 rfl (fun _ hS => (Ix (e := 3) 1 rfl rfl hi30)) hS9 <| Dq 6 rfl (fun _ hS => (rd_load (by kernel_rfl) rfl (hS.zin _ _ (hp29 0 _ (by decide) (rcN_b _ _ _ _ _))))) hS9 ?_
 obtain ⟨p31, hi33, hp32⟩ := hN.idx 3 (by omega) (by decide)
 refine Gp1 1 [7] 52 (.slice An ((rcN ⟨k, a, b, cc, d⟩).length) cn) hS9 <| Dq 8 rfl (fun _ hS => (Ix (e := 3) 1 rfl rfl hi33)) hS9 <| Dq 9 rfl (fun _ hS => (rd_load (by kernel_rfl) rfl (hS.zin _ _ (hp32 0 _ (by decide) (rcN_c hk2 _ _ _ _))))) hS9 ?_
 replace hH : Hp w w24 _ _ ([_, _] ++ []) := hH
 refine Gp1 2 [10,11] 56 (.agg #[Ni a, Ni b, Ni cc, .slice Ad d.length cd]) hS9 <| gds 12 (Sc rfl rfl (by have h9 := RPutP_ct g xb c fi bad _ _ es ⟨a, b, cc, d⟩ pl _ hH.mine hL (hd.mono hH.zoff) hl hcx ha hb hcc hdl; exact h9.mono fun v w1 h => rdo_one (first := first) hk2 h) ?_)
 rintro _ w34 ⟨bb, o2, rfl, hor, hF35⟩
 replace hH := hH.turns hF35
 replace hH := hH.n1
 refine Nl (hH.sb sln) fun hS9 => Gp1 1 [13] 8 (.bool bb) hS9 <| gdn [(8, .bool bb)] <| sw_next <| Rt1 rfl rfl ?_
 replace hH := (hH.sb (slk sln)).n1
 exact ⟨bb, o2, rfl, hor, hH.turned⟩
end Go.Proofs.YtajapgjemefoiaaGreatDoor
/- Layer 19, the document's own answer (muntinref19): does a file begin with a base: what it answers. -/
set_option maxRecDepth 100000
set_option maxHeartbeats 4000000
set_option linter.unusedVariables false
set_option linter.unusedSimpArgs false
namespace Go.Proofs.YtajapgjemefoiaaGreatDoor
open Go.RowKit Go.SW
def isB (l : List (List UInt8)) : Bool := match l with | p :: _ => (match readR p with | some r => decide (r.k = 3) | none => false) | [] => false
theorem isB_some {fr : RQ} {q : List UInt8 × Value} {r : Rc} (h : fr[0]? = some q) (hr : readR q.1 = some r) : isB (fr.map (·.1)) = decide (r.k = 3) := by
  cases fr with
  | nil => cases h
  | cons x l => cases h; unfold isB; simp only [List.map_cons, hr]
theorem isB_none {fr : RQ} {q : List UInt8 × Value} (h : fr[0]? = some q) (hr : readR q.1 = none) : isB (fr.map (·.1)) = false := by
  cases fr with
  | nil => cases h
  | cons x l => cases h; unfold isB; simp only [List.map_cons, hr]
theorem rcN_k (r : Rc) : (iv (rcN r))[0]? = some (.int .i64 ((r.k : Nat) : Int)) := by obtain ⟨k, a, b, c, d⟩ := r; exact rcN_0 k a b c d
theorem rcN_3 (r : Rc) : 3 ≤ (rcN r).length := by rw [rcN_len]; split <;> omega

theorem Begins_ct (k wh : Int) (mo : Bool) (vr : Value) (fr : RQ) (w : World) (hR : Row w.cell? vr 1 fr.length (rowC rqC fr)) (hF : ∀ q ∈ fr, RB w.cell? q.2 q.1) :
    Fun Tryz.prog 99 [.agg #[.int .i64 k, vr, .int .i64 wh, .bool mo]] w fun v w' => v = .bool (isB (fr.map (·.1))) ∧ Fresh w w' [] := by
 obtain ⟨Ar, cr, rfl, _, _⟩ := hR.form
 refine fun_of_sw Tryz.func99 rfl 26 rfl rfl ?_
 have hH := Hp.start w
 refine sw_sr <| gl_st (Bx [.int .i64 k, .slice Ar fr.length cr, .int .i64 wh, .bool mo] rfl hH ?_)
 clear hH; intro b1 w2 hH
 refine Go0 1 <| Dn <| sw_seq <| sw_sr <| Go1 1 6 (Pp b1 1) <| Gq rfl (Lk 0 hH rfl rfl rfl) <| Gq rfl (Ln (e := 37) rfl) <| Go1 1 9 (.bool (((fr.length : Nat) : Int) == (0 : Int))) <| Dn <| If rfl (fun hc1 => ?_) (fun hc1 => ?_)
 refine sw_sr <| Go1 1 2 (.bool false) <| Dn <| Rt1 rfl rfl ?_
 exact ⟨by rw [List.eq_nil_of_length_eq_zero (show fr.length = 0 by omega)]; rfl, (hH.sb sln).fresh⟩
 refine Sk ?_
 obtain ⟨⟨q, vq⟩, hq⟩ : ∃ x, fr[0]? = some x := ⟨_, List.getElem?_eq_getElem (by omega)⟩
 have kq : RB w.cell? vq q := hF _ (List.mem_of_getElem? hq)
 obtain ⟨Aq, cq, rfl, _, _⟩ := kq.row.form
 refine sw_sr <| Go1 1 11 (Pp b1 1) <| Gq rfl (Lk 0 hH rfl rfl rfl) ?_
 obtain ⟨p3, hi5, hp4⟩ := hR.idx 0 (by omega) (by decide)
 refine Gq rfl (Ix (e := 37) 1 rfl rfl hi5) <| Gq rfl (rd_load (by kernel_rfl) rfl (hH.zin _ _ (hp4 0 _ (by decide) (rowC_at rqC_len hq 0 (by decide) rfl)))) <| gl_st (Sc rfl rfl (Record_ct _ q _ (kq.mono hH.zin)) ?_)
 rintro _ w14 ⟨v6, v7, ns8, d9, ok10, rfl, hr11, hF15⟩
 replace hH := hH.call hF15
 obtain ⟨A16, c17, rfl, hl18, hm19⟩ := hH.row_form 1 rfl
 obtain ⟨A20, c21, rfl, hl22, hm23⟩ := hH.row_form 2 rfl
 refine Go2 7 3 (.slice A16 ns8.length c17) 5 (.bool ok10) <| Dn <| sw_sr <| Go1 2 20 (.bool ok10) <| Gi 20 rfl (fun hg2 => ?_) (fun hg2 => ?_)
 have hok : ok10 = true := hg2
 obtain ⟨r, hrr, hns, hdd⟩ := (hr11.resolve_left (fun h => by rw [h.1] at hok; cases hok)).2
 have hn3 := rcN_3 r
 rw [← hns] at hn3
 obtain ⟨b25, hb24, hi26⟩ := hH.row_idx 1 rfl 0 (by omega)
 refine Go1 1 21 (.slice A16 ns8.length c17) <| Gq rfl (Ix (e := 3) 1 rfl rfl hi26) <| Gq rfl (Lo 1 hH rfl rfl hb24 (by rw [hns]; exact rcN_k r)) <| Go1 3 2 (.bool (((r.k : Nat) : Int) == (3 : Int))) <| Dn <| Rt1 rfl rfl ?_
 exact ⟨by rw [isB_some hq hrr]; congr 1; rw [Bool.eq_iff_iff, beq_iff_eq, decide_eq_true_eq]; omega, (hH.sb sln).fresh⟩
 have hok : ok10 = false := hg2
 have hrn := (hr11.resolve_right (fun h => by rw [h.1] at hok; cases hok)).2
 refine Go1 6 2 (.bool false) <| Dn <| Rt1 rfl rfl ?_
 exact ⟨by rw [isB_none hq hrn], (hH.sb sln).fresh⟩
end Go.Proofs.YtajapgjemefoiaaGreatDoor
/- Layer 19, the document's own answer: its files by rising numbers, frames not yet read, and the program's parts. Plain mathematics. -/
set_option linter.unusedVariables false
namespace Go.Proofs.YtajapgjemefoiaaGreatDoor
open Go.SW Go.RowKit
/-- A file of the log, its frames unread. -/
structure Sg where
  k : Nat
  fr : List (List UInt8)
  whole : Nat
  more : Bool
def sgF (f : Fil) : Sg := ⟨numF f.name, (scanA f.b 0).1, (scanA f.b 0).2.1, decide ((scanA f.b 0).2.1 < f.b.length)⟩
def insK9 (l : List Sg) (k : Nat) : Nat := l.findIdx fun y => decide (k ≤ y.k)
def insSg (l : List Sg) (x : Sg) : List Sg := l.take (insK9 l x.k) ++ x :: l.drop (insK9 l x.k)
def segsF (F : List Fil) (l : List Sg) : List Sg := F.foldl (fun l f => if numF f.name = 0 then l else insSg l (sgF f)) l
def decS (s : Sg) : Option Pt := (rowsR s.fr).map fun rs => ⟨s.k, rs, s.whole, s.more⟩
def decAll : List Sg → Option (List Pt)
  | [] => some []
  | s :: r => (decS s).bind fun p => (decAll r).map (p :: ·)
theorem scan_more : ∀ (n : Nat) (b : List UInt8) (k : Nat), b.length - k = n → k ≤ b.length → (scanA b k).2.1 ≤ b.length ∧ ((scanA b k).2.2 ≠ 0 ↔ (scanA b k).2.1 < b.length) := by
  intro n
  induction n using Nat.strongRecOn with
  | ind n ih =>
    intro b k hn hk
    by_cases h : b.length ≤ k
    · rw [scan_end h]
      exact ⟨by simp only; omega, by simp only; omega⟩
    · by_cases h2 : (openF (b.drop k)).2.2 = 0
      · have hu := openF_used h2
        rw [List.length_drop] at hu
        rw [scan_step (by omega) h2]
        have := ih (b.length - (k + (openF (b.drop k)).2.1)) (by omega) b (k + (openF (b.drop k)).2.1) rfl (by omega)
        exact this
      · rw [scan_err (by omega) h2]
        exact ⟨by simp only; omega, by simp only; exact ⟨fun _ => by omega, fun _ => h2⟩⟩
theorem ptF_dec (f : Fil) : ptF f = decS (sgF f) := by
  have h := (scan_more _ f.b 0 rfl (Nat.zero_le _)).2
  unfold ptF decS sgF
  simp only
  congr 1
  funext rs
  have e : decide ((scanA f.b 0).2.2 ≠ 0) = decide ((scanA f.b 0).2.1 < f.b.length) := by
    rw [Bool.eq_iff_iff, decide_eq_true_eq, decide_eq_true_eq]; exact h
  rw [e]
theorem partsF_dec : ∀ (F : List Fil), partsF F = decAll ((F.filter fun f => !(numF f.name == 0)).map sgF)
  | [] => rfl
  | f :: F => by
    rw [partsF, partsF_dec F, List.filter_cons]
    by_cases h : numF f.name = 0
    · rw [if_pos h, if_neg (by simp [h])]
    · rw [if_neg h, if_pos (by simpa using h), ptF_dec]; rfl
theorem insSg_perm (l : List Sg) (x : Sg) : (insSg l x).Perm (x :: l) := by
  unfold insSg
  refine List.perm_middle.trans ?_
  rw [List.take_append_drop]
theorem insSg_sorted {l : List Sg} (h : l.Pairwise (fun a b => a.k ≤ b.k)) (x : Sg) : (insSg l x).Pairwise (fun a b => a.k ≤ b.k) := by
  unfold insSg
  have hlo : ∀ y ∈ l.take (insK9 l x.k), y.k < x.k := fun y hy => by
    obtain ⟨i, hi⟩ := List.getElem?_of_mem hy
    rw [List.getElem?_take] at hi
    split at hi
    · rename_i hlt
      obtain ⟨hil, he⟩ := List.getElem?_eq_some_iff.1 hi
      have := List.not_of_lt_findIdx (show i < l.findIdx (fun y => decide (x.k ≤ y.k)) from hlt)
      rw [he] at this
      simpa using this
    · cases hi
  have hhi : ∀ y ∈ l.drop (insK9 l x.k), x.k ≤ y.k := fun y hy => by
    by_cases hin : insK9 l x.k < l.length
    · have h0 := List.findIdx_getElem (xs := l) (p := fun y : Sg => decide (x.k ≤ y.k)) (w := hin)
      have h1 : x.k ≤ (l[insK9 l x.k]).k := of_decide_eq_true h0
      rw [List.drop_eq_getElem_cons hin] at hy
      rcases List.mem_cons.1 hy with rfl | hy
      · exact h1
      · have h2 : (l.drop (insK9 l x.k)).Pairwise (fun a b => a.k ≤ b.k) := h.sublist (List.drop_sublist _ _)
        rw [List.drop_eq_getElem_cons hin] at h2
        have := (List.pairwise_cons.1 h2).1 y hy
        omega
    · rw [List.drop_of_length_le (by omega)] at hy; cases hy
  rw [List.pairwise_append]
  refine ⟨h.sublist (List.take_sublist _ _), List.pairwise_cons.2 ⟨hhi, h.sublist (List.drop_sublist _ _)⟩, fun a ha b hb => ?_⟩
  have h1 := hlo a ha
  rcases List.mem_cons.1 hb with rfl | hb
  · omega
  · have := hhi b hb; omega
theorem segsF_is : ∀ (F : List Fil) (l : List Sg), l.Pairwise (fun a b => a.k ≤ b.k) → (segsF F l).Pairwise (fun a b => a.k ≤ b.k) ∧ (segsF F l).Perm (l ++ (F.filter fun f => !(numF f.name == 0)).map sgF)
  | [], l, h => ⟨h, by simp [segsF]⟩
  | f :: F, l, h => by
    show (segsF F (if numF f.name = 0 then l else insSg l (sgF f))).Pairwise _ ∧ (segsF F (if numF f.name = 0 then l else insSg l (sgF f))).Perm _
    rw [List.filter_cons]
    by_cases h0 : numF f.name = 0
    · rw [if_pos h0, if_neg (by simp [h0])]
      exact segsF_is F l h
    · rw [if_neg h0, if_pos (by simpa using h0)]
      obtain ⟨h1, h2⟩ := segsF_is F _ (insSg_sorted h (sgF f))
      refine ⟨h1, h2.trans ?_⟩
      rw [List.map_cons]
      exact ((insSg_perm l (sgF f)).append_right _).trans List.perm_middle.symm
theorem decAll_k : ∀ {l : List Sg} {ps : List Pt}, decAll l = some ps → ps.map (·.k) = l.map (·.k)
  | [], ps, h => by cases h; rfl
  | s :: r, ps, h => by
    obtain ⟨p, h1, h2⟩ := Option.bind_eq_some_iff.1 h
    obtain ⟨q, h3, rfl⟩ := Option.map_eq_some_iff.1 h2
    obtain ⟨rs, _, rfl⟩ := Option.map_eq_some_iff.1 h1
    simp only [List.map_cons, decAll_k h3]
theorem decAll_perm {l l' : List Sg} (h : l.Perm l') {ps : List Pt} (hp : decAll l = some ps) : ∃ qs, decAll l' = some qs ∧ ps.Perm qs := by
  induction h generalizing ps with
  | nil => exact ⟨ps, hp, List.Perm.refl _⟩
  | cons s h ih =>
    obtain ⟨p, h1, h2⟩ := Option.bind_eq_some_iff.1 (show (decS s).bind _ = some ps from hp)
    obtain ⟨r, h3, rfl⟩ := Option.map_eq_some_iff.1 h2
    obtain ⟨qs, h4, h5⟩ := ih h3
    exact ⟨p :: qs, by show (decS s).bind _ = _; rw [h1, h4]; rfl, h5.cons p⟩
  | swap s t l =>
    obtain ⟨p, h1, h2⟩ := Option.bind_eq_some_iff.1 (show (decS t).bind _ = some ps from hp)
    obtain ⟨r, h3, rfl⟩ := Option.map_eq_some_iff.1 h2
    obtain ⟨q, h4, h5⟩ := Option.bind_eq_some_iff.1 (show (decS s).bind _ = some r from h3)
    obtain ⟨u, h6, rfl⟩ := Option.map_eq_some_iff.1 h5
    refine ⟨q :: p :: u, ?_, List.Perm.swap _ _ _⟩
    show (decS s).bind (fun p => ((decS t).bind fun p => (decAll l).map (p :: ·)).map (p :: ·)) = _
    rw [h1, h4, h6]; rfl
  | trans h1 h2 ih1 ih2 =>
    obtain ⟨qs, e1, p1⟩ := ih1 hp
    obtain ⟨rs, e2, p2⟩ := ih2 e1
    exact ⟨rs, e2, p1.trans p2⟩
theorem segs_nodup {F : List Fil} (hS : Srt F) : ((F.filter fun f => !(numF f.name == 0)).map fun f => numF f.name).Nodup := by
  refine List.pairwise_map.2 ?_
  have h1 := hS.sublist (List.filter_sublist (p := fun f : Fil => !(numF f.name == 0)) (l := F))
  refine (List.pairwise_iff_forall_sublist.2 fun {a b} hab e => ?_)
  have hm : ∀ x ∈ [a, b], x ∈ F.filter fun f => !(numF f.name == 0) := fun x hx => hab.subset hx
  have ha := (List.mem_filter.1 (hm a (by simp))).2
  have hb := (List.mem_filter.1 (hm b (by simp))).2
  have ea : numF a.name ≠ 0 := by simpa using ha
  have eb : numF b.name ≠ 0 := by simpa using hb
  have hlt : a.name < b.name := List.pairwise_iff_forall_sublist.1 h1 hab
  rw [nameF_numF ea, e, ← nameF_numF eb] at hlt
  exact bl_irrefl _ hlt
theorem parts_segs {F : List Fil} (hS : Srt F) : (partsF F).map sortP = decAll (segsF F []) := by
  obtain ⟨h1, h2⟩ := segsF_is F [] List.Pairwise.nil
  rw [List.nil_append] at h2
  rw [partsF_dec]
  cases h : decAll ((F.filter fun f => !(numF f.name == 0)).map sgF) with
  | none =>
    cases h3 : decAll (segsF F []) with
    | none => rfl
    | some ps =>
      obtain ⟨qs, h4, _⟩ := decAll_perm h2 h3
      rw [h] at h4; cases h4
  | some ps =>
    obtain ⟨qs, h4, h5⟩ := decAll_perm h2.symm h
    rw [h4, Option.map_some]
    congr 1
    have hk := decAll_k h4
    have hle : (qs.map (·.k)).Pairwise (fun a b => a ≤ b) := by rw [hk]; exact List.pairwise_map.2 h1
    have hnd : (qs.map (·.k)).Nodup := by
      rw [hk]
      have e : ((F.filter fun f => !(numF f.name == 0)).map sgF).map (·.k) = (F.filter fun f => !(numF f.name == 0)).map fun f => numF f.name := by rw [List.map_map]; rfl
      refine ((h2.map (·.k)).nodup_iff).2 ?_
      rw [e]; exact segs_nodup hS
    have hlt : qs.Pairwise (fun a b => a.k < b.k) := by
      have := (List.pairwise_map.1 hle).and (List.pairwise_map.1 hnd)
      exact this.imp fun h => by have h1 := h.1; have h2 : _ ≠ _ := h.2; omega
    exact sort_lt ((List.mergeSort_perm _ _).trans h5) hlt (sortP_sorted ps)
end Go.Proofs.YtajapgjemefoiaaGreatDoor
/- Layer 19, the document's own answer (muntinref19): its files, by rising numbers: what is answered. -/
set_option maxRecDepth 100000
set_option maxHeartbeats 4000000
set_option linter.unusedVariables false
set_option linter.unusedSimpArgs false
namespace Go.Proofs.YtajapgjemefoiaaGreatDoor
open Go.RowKit Go.SW
/-- A file, as it lies in memory: its frames, each with its slice, and their row. -/
structure SV where
  k : Nat
  fr : RQ
  whole : Nat
  more : Bool
  A : Option Addr
  cap : Nat
abbrev SV.v (q : SV) : Value := .slice q.A q.fr.length q.cap
def SV.sg (q : SV) : Sg := ⟨q.k, q.fr.map (·.1), q.whole, q.more⟩
def sgC (q : SV) : List Value := [.int .i64 ((q.k : Nat) : Int), q.v, .int .i64 ((q.whole : Nat) : Int), .bool q.more]
theorem sgC_len (q : SV) : (sgC q).length = 4 := rfl
structure SvOk (c : Zone) (q : SV) : Prop where
  row : Row c q.v 1 q.fr.length (rowC rqC q.fr)
  fr : ∀ r ∈ q.fr, RB c r.2 r.1
  k : q.k < 1000000000
  whole : q.whole ≤ 4294967296
theorem SvOk.mono {c c' : Zone} {q : SV} (h : SvOk c q) (hl : c.le c') : SvOk c' q := ⟨h.row.mono hl, fun r hr => (h.fr r hr).mono hl, h.k, h.whole⟩
theorem numF_lt9 (s : List UInt8) : numF s < 1000000000 := by
  unfold numF
  split
  · rename_i h
    have h1 := decV_lt (s.drop 3) h.2.2.2.2
    have h2 : (s.drop 3).length ≤ 9 := by rw [List.length_drop]; omega
    have h3 : 10 ^ (s.drop 3).length ≤ 10 ^ 9 := Nat.pow_le_pow_right (by omega) h2
    omega
  · omega
theorem segsF_next {F : List Fil} {i : Nat} {f : Fil} (h : F[i]? = some f) (l : List Sg) : segsF (F.take (i + 1)) l = if numF f.name = 0 then segsF (F.take i) l else insSg (segsF (F.take i) l) (sgF f) := by
  have hl := (List.getElem?_eq_some_iff.1 h).1
  have he := (List.getElem?_eq_some_iff.1 h).2
  unfold segsF
  rw [List.take_succ_eq_append_getElem hl, List.foldl_append, he]
  rfl
theorem insK9_at {S : List SV} {a k : Nat} (h : a ≤ S.length) (hlt : ∀ (j : Nat) (q : SV), j < a → S[j]? = some q → q.k < k) (hge : ∀ q, S[a]? = some q → k ≤ q.k) : a = insK9 (S.map SV.sg) k := by
  unfold insK9
  by_cases ha : a < S.length
  · refine Eq.symm ((List.findIdx_eq (by rw [List.length_map]; exact ha)).2 ⟨?_, fun j hj => ?_⟩)
    · rw [List.getElem_map]
      exact decide_eq_true (hge _ (List.getElem?_eq_getElem ha))
    · rw [List.getElem_map]
      have := hlt j _ hj (List.getElem?_eq_getElem (by omega))
      exact decide_eq_false (by show ¬ k ≤ (S[j]).k; omega)
  · have e : a = S.length := by omega
    subst e
    refine Eq.symm ((List.findIdx_eq_length.2 fun x hx => ?_).trans (List.length_map ..))
    obtain ⟨q, hq, rfl⟩ := List.mem_map.1 hx
    obtain ⟨j, hj⟩ := List.getElem?_of_mem hq
    have := hlt j q (List.getElem?_eq_some_iff.1 hj).1 hj
    exact decide_eq_false (by show ¬ k ≤ q.k; omega)
theorem sg_ins {S : List SV} {x : SV} {l : List Sg} (h : S.map SV.sg = l) (a : Nat) (ha : a = insK9 (S.map SV.sg) x.k) : (S.take a ++ x :: S.drop a).map SV.sg = insSg l x.sg := by
  subst h
  unfold insSg
  rw [show x.sg.k = x.k from rfl, ← ha, List.map_append, List.map_cons, List.map_take, List.map_drop]
theorem sg_last (S : List SV) (a : Nat) (X : SV) : rowC sgC (S.take a ++ [X]) ++ ((rowC sgC S).drop (a * 4)).take ((S.length - a) * 4) = rowC sgC (S.take a ++ X :: S.drop a) := by
  have e1 : ((rowC sgC S).drop (a * 4)).take ((S.length - a) * 4) = rowC sgC (S.drop a) := by
    rw [rowC_drop sgC_len, List.take_of_length_le (by rw [rowC_len sgC_len, List.length_drop]; exact Nat.le_refl _)]
  have e2 : S.take a ++ X :: S.drop a = (S.take a ++ [X]) ++ S.drop a := by simp
  rw [e1, e2, rowC_app]
theorem sg_one {S : List SV} : ∀ u ∈ rowC sgC S, u.oneCell' = true := by
  intro u hu
  obtain ⟨c, hc, hu2⟩ := List.mem_flatten.1 hu
  obtain ⟨q, hq, rfl⟩ := List.mem_map.1 hc
  simp only [sgC, List.mem_cons, List.not_mem_nil, or_false] at hu2
  rcases hu2 with rfl | rfl | rfl | rfl <;> rfl

theorem Segs_ct (xb : Nat) (rv : Value) (L : FV) (w : World) (h0 : w.cell? ⟨xb, 0, none⟩ = some rv) (hRv : Row w.cell? rv 3 L.length (rowC filC L)) (hB : ∀ q ∈ L, RB w.cell? q.2 q.1.b) (hlen : ∀ q ∈ L, q.1.b.length ≤ 4294967296) (hnm : ∀ q ∈ L, q.1.name.length ≤ 32) (hL : L.length ≤ 1000) :
    Fun Tryz.prog 60 [.pointer (some ⟨xb, 0, none⟩)] w fun v w' => ∃ v1 S pl, v = v1 ∧ (S.map SV.sg = segsF (L.map (·.1)) [] ∧ ∀ q ∈ S, SvOk (pz pl) q) ∧ Fresh w w' [.row v1 132 4 S.length (rowC sgC S), plO pl] := by
 obtain ⟨Av, cv, rfl, _, _⟩ := hRv.form
 refine fun_of_sw Tryz.func60 rfl 90 rfl rfl ?_
 have hH := Hp.start w
 refine sw_sr <| Go0 1 <| Dn <| sw_sr <| Go1 1 3 (.slice none 0 0) <| Dn <| sw_seq <| sw_sr <| Go1 1 4 (.int .i64 0) <| Dn <| sw_block ?_
 replace hH := hH.nilRow 132 4
 replace hH := hH.pool
 refine Lp (γ := Nat × List SV × Option Addr × Nat × Pl) hH (fun (i, S, Ao, co, pl) => [(0, .pointer (some ⟨xb, 0, none⟩)), (3, .slice Ao S.length co), (4, Ni i)]) (fun (i, S, Ao, co, pl) w_ H_ => (i ≤ L.length) ∧ (∀ q ∈ S, SvOk (pz pl) q) ∧ (S.map SV.sg = segsF ((L.map (·.1)).take i) []) ∧ (S.length ≤ i) ∧ H_ [.row (.slice Ao S.length co) 132 4 S.length (rowC sgC S), plO pl]) (fun (i, S, Ao, co, pl) => L.length - i) (0, [], none, 0, []) ?_ ?_
 · exact ⟨Nat.zero_le _, (fun q hq => by cases hq), rfl, Nat.le_refl _, hH⟩
 clear hH
 rintro ⟨i, S, Ao, co, pl⟩ w1 ⟨hi, hSk, hsg, hSl, hH⟩
 obtain ⟨_, _, e9, hc8, hc9⟩ := hH.row_form 0 rfl
 cases e9
 refine swk [(0, .pointer (some ⟨xb, 0, none⟩)), (3, .slice Ao S.length co), (4, Ni i)] <| sw_seq <| sw_sr <| Go2 4 12 (Ni i) 15 (.pointer (some ⟨xb, 0, none⟩)) <| Gq rfl (rd_load (by kernel_rfl) rfl (hH.zin _ _ h0)) <| Gq rfl (Ln (e := 83) rfl) <| Go1 1 18 (.bool (decide ((i : Int) < ((L.length : Nat) : Int)))) <| Dn <| If rfl (fun hc1 => ?_) (fun hc1 => ?_)
 refine Sk <| sw_seq <| sw_block ?_
 obtain ⟨⟨f, fv⟩, hq⟩ : ∃ q, L[i]? = some q := ⟨_, List.getElem?_eq_getElem (by omega)⟩
 have hf : (L.map (·.1))[i]? = some f := by rw [List.getElem?_map, hq]; rfl
 have kq : RB w.cell? fv f.b := hB _ (List.mem_of_getElem? hq)
 obtain ⟨Af, cf, rfl, _, _⟩ := kq.row.form
 have hfb := hlen _ (List.mem_of_getElem? hq)
 have hfn := hnm _ (List.mem_of_getElem? hq)
 simp only at hfb hfn
 have hnl := numF_lt9 f.name
 refine sw_sr <| Go1 3 23 (.pointer (some ⟨xb, 0, none⟩)) <| Gq rfl (rd_load (by kernel_rfl) rfl (hH.zin _ _ h0)) ?_
 obtain ⟨p2, hi4, hp3⟩ := hRv.idx i (by omega) (by decide)
 refine Go1 1 25 (Ni i) <| Gq rfl (Ix (e := 83) 3 rfl rfl hi4) <| Go1 1 27 (.pointer (some p2)) <| Gq rfl (rd_load (by kernel_rfl) rfl (hH.zin _ _ (hp3 0 _ (by decide) (rowC_at filC_len hq 0 (by decide) rfl)))) <| gl_st (Sc rfl rfl (RNumber19_ct f.name _ (by first | omega | (simp <;> omega))) ?_)
 rintro _ w5 ⟨rfl, hF6⟩
 replace hH := hH.call hF6
 refine Go1 1 5 (Ni (numF f.name)) <| Dn <| sw_seq <| sw_sr <| Go1 2 31 (.bool (((numF f.name : Nat) : Int) == (0 : Int))) <| Dn <| If rfl (fun hc2 => ?_) (fun hc2 => ?_)
 have hk0 : numF f.name = 0 := by omega
 refine sw_exit <| thX <| bkH <| sw_next <| sw_region <| Gw0 2 20 ((i : Int) + 1) ((i + 1 : Nat) : Int) <| Go1 1 4 (Ni (i + 1)) <| Dd <| rnd_end (g := (i, S, Ao, co, pl)) (i + 1, S, Ao, co, pl) (by kernel_rfl) ?_ ?_
 replace hH := (hH.sb (slk (slk sln))).n2
 · exact ⟨by omega, hSk, by rw [segsF_next hf, if_pos hk0]; exact hsg, by omega, hH⟩
 · show L.length - (i + 1) < L.length - i; omega
 have hk0 : ¬ numF f.name = 0 := by omega
 refine Sk <| sw_sr <| Go1 3 35 (.pointer (some ⟨xb, 0, none⟩)) <| Gq rfl (rd_load (by kernel_rfl) rfl (hH.zin _ _ h0)) ?_
 obtain ⟨p7, hi9, hp8⟩ := hRv.idx i (by omega) (by decide)
 refine Go1 1 37 (Ni i) <| Gq rfl (Ix (e := 83) 3 rfl rfl hi9) <| Go1 1 39 (.pointer (some (p7.add 1))) <| Gq rfl (rd_load (by kernel_rfl) rfl (hH.zin _ _ (hp8 1 _ (by decide) (rowC_at filC_len hq 1 (by decide) rfl)))) <| gl_st (Sc rfl rfl (RScan_ct _ f.b _ (kq.mono hH.zin) hfb) ?_)
 rintro _ w11 ⟨v10, qs, rfl, hqs, hF12⟩
 replace hH := hH.call hF12
 replace hH := hH.fr2.fr4
 obtain ⟨p2, hRs, hH⟩ := pl_adds (f := rqO 5) (fun _ => rfl) qs hH
 replace hH : Hp w w11 _ _ [plO (pl ++ p2), .row (.slice Ao S.length co) 132 4 S.length (rowC sgC S), .row _ 37 1 qs.length (rowC rqC qs)] := hH
 obtain ⟨Ar, cr, rfl, hl9, hm9⟩ := hH.row_form 2 rfl
 replace hH : Hp w w11 _ _ [plO (pl ++ p2), .row (.slice Ao S.length co) 132 4 S.length (rowC sgC S), .row (.slice Ar qs.length cr) 37 1 qs.length (rowC rqC qs)] := hH
 replace hH := hH.fr3
 obtain ⟨p3, hRr, hH⟩ := pl_add hH
 replace hH : Hp w w11 _ _ [plO (pl ++ p2 ++ p3), .row (.slice Ao S.length co) 132 4 S.length (rowC sgC S)] := hH
 have hsm := (scan_more _ f.b 0 rfl (Nat.zero_le _)).1
 have hSx : SvOk (pz (pl ++ p2 ++ p3)) ⟨numF f.name, qs, (scanA f.b 0).2.1, decide ((scanA f.b 0).2.1 < f.b.length), Ar, cr⟩ := ⟨hRr, fun r hr => (hRs r hr).mono (pz_app _ p3), hnl, by simp only; omega⟩
 refine Go2 7 6 (.slice Ar qs.length cr) 7 (Ni ((scanA f.b 0).2.1)) <| Dn <| sw_sr <| glo 7 [(0, .pointer (some ⟨xb, 0, none⟩)), (3, .slice Ao S.length co), (4, Ni i), (5, Ni (numF f.name)), (45, Ni (numF f.name)), (46, .slice Ar qs.length cr), (47, Ni ((scanA f.b 0).2.1)), (48, Ni ((scanA f.b 0).2.1)), (51, .pointer (some ⟨xb, 0, none⟩))] <| Gq rfl (rd_load (by kernel_rfl) rfl (hH.zin _ _ h0)) ?_
 obtain ⟨p13, hi15, hp14⟩ := hRv.idx i (by omega) (by decide)
 refine Go1 1 53 (Ni i) <| Gq rfl (Ix (e := 83) 3 rfl rfl hi15) <| Go1 1 55 (.pointer (some (p13.add 1))) <| Gq rfl (rd_load (by kernel_rfl) rfl (hH.zin _ _ (hp14 1 _ (by decide) (rowC_at filC_len hq 1 (by decide) rfl)))) <| Gq rfl (Ln (e := 5) rfl) <| Go1 1 58 (.bool (decide ((((scanA f.b 0).2.1 : Nat) : Int) < ((f.b.length : Nat) : Int)))) <| gl_cv 58 (.bool (decide ((scanA f.b 0).2.1 < f.b.length))) (by congr 1; rw [decide_eq_decide]; omega) rfl <| Go1 1 59 (.agg #[Ni (numF f.name), .slice Ar qs.length cr, Ni ((scanA f.b 0).2.1), .bool (decide ((scanA f.b 0).2.1 < f.b.length))]) <| gl_st (Alc [.int .i64 0, .slice none 0 0, .int .i64 0, .bool false] rfl hH ?_)
 clear hH; intro b16 w17 hH
 refine gl_st (Ka 2 [Ni (numF f.name), .slice Ar qs.length cr, Ni ((scanA f.b 0).2.1), .bool (decide ((scanA f.b 0).2.1 < f.b.length))] [Ni (numF f.name), .slice Ar qs.length cr, Ni ((scanA f.b 0).2.1), .bool (decide ((scanA f.b 0).2.1 < f.b.length))] rfl hH rfl rfl ?_)
 clear hH; intro w18 hH
 refine Dn <| sw_sr <| Go1 1 10 (.int .i64 0) <| Dn <| Cu (γ := Nat) hH (fun a => [(0, .pointer (some ⟨xb, 0, none⟩)), (3, .slice Ao S.length co), (4, Ni i), (9, Pp b16 0), (10, Ni a)]) (fun a w_ H_ => (a ≤ S.length) ∧ (a = insK9 (S.map SV.sg) (numF f.name)) ∧ H_ [plO (pl ++ p2 ++ p3), .row (.slice Ao S.length co) 132 4 S.length (rowC sgC S), .blk b16 132 [Ni (numF f.name), .slice Ar qs.length cr, Ni ((scanA f.b 0).2.1), .bool (decide ((scanA f.b 0).2.1 < f.b.length))]]) ?_ ?_
 ·
  refine sw_block <| Lp (γ := Nat) hH (fun a => [(0, .pointer (some ⟨xb, 0, none⟩)), (3, .slice Ao S.length co), (4, Ni i), (5, Ni (numF f.name)), (9, Pp b16 0), (10, Ni a)]) (fun a w_ H_ => (a ≤ S.length) ∧ (∀ (j : Nat) (q : SV), j < a → S[j]? = some q → q.k < numF f.name) ∧ H_ [plO (pl ++ p2 ++ p3), .row (.slice Ao S.length co) 132 4 S.length (rowC sgC S), .blk b16 132 [Ni (numF f.name), .slice Ar qs.length cr, Ni ((scanA f.b 0).2.1), .bool (decide ((scanA f.b 0).2.1 < f.b.length))]]) (fun a => S.length - a) (0) ?_ ?_
  · exact ⟨Nat.zero_le _, fun j q h => absurd h (Nat.not_lt_zero _), hH⟩
  clear hH
  rintro a w19 ⟨ha1, hlt, hH⟩
  refine swk [(0, .pointer (some ⟨xb, 0, none⟩)), (3, .slice Ao S.length co), (4, Ni i), (5, Ni (numF f.name)), (9, Pp b16 0), (10, Ni a)] <| sw_seq <| sw_sr <| Go2 2 60 (Ni a) 61 (.slice Ao S.length co) <| Gq rfl (Ln (e := 132) rfl) <| Go1 2 64 (.bool (decide ((a : Int) < ((S.length : Nat) : Int)))) <| Gi 64 rfl (fun hg3 => ?_) (fun hg3 => ?_)
  obtain ⟨qa, hqa⟩ : ∃ q, S[a]? = some q := ⟨_, List.getElem?_eq_getElem (by omega)⟩
  have hqk := (hSk qa (List.mem_of_getElem? hqa)).k
  obtain ⟨b21, hb20, hi22⟩ := hH.row_idx 1 rfl a (by omega)
  refine Go2 2 65 (.slice Ao S.length co) 66 (Ni a) <| Gq rfl (Ix (e := 132) 4 rfl rfl hi22) <| Go1 1 68 (Pp b21 (a * 4)) <| Gq rfl (Lo 1 hH rfl rfl hb20 (rowC_at sgC_len hqa 0 (by decide) rfl)) <| Go1 3 72 (.bool (decide (((qa.k : Nat) : Int) < ((numF f.name : Nat) : Int)))) <| Dn <| If rfl (fun hc4 => ?_) (fun hc4 => ?_)
  refine Sk <| sw_block <| sw_region <| Gw0 2 74 ((a : Int) + 1) ((a + 1 : Nat) : Int) <| Go1 1 10 (Ni (a + 1)) <| Dd <| bkN <| rnd_end (g := (a)) (a + 1) (by kernel_rfl) ?_ ?_
  · exact ⟨by omega, fun j q9 hj hq9 => by
      by_cases e9 : j = a
      · subst e9; rw [hqa] at hq9; cases hq9; omega
      · exact hlt j q9 (by omega) hq9, hH⟩
  · show S.length - (a + 1) < S.length - a; omega
  refine sw_exit <| thX <| thX <| bkH <| Ce (a) ?_
  exact ⟨by omega, insK9_at (by omega) hlt (fun q hq => by rw [hqa] at hq; cases hq; omega), hH⟩
  refine Go1 8 72 (.bool false) <| Dn <| Iz <| sw_exit <| thX <| thX <| bkH <| Ce (a) ?_
  exact ⟨by omega, insK9_at (by omega) hlt (fun q hq => by have h9 := (List.getElem?_eq_some_iff.1 hq).1; omega), hH⟩
 clear hH
 rintro a w23 ⟨ha1, ha, hH⟩
 refine swk [(0, .pointer (some ⟨xb, 0, none⟩)), (3, .slice Ao S.length co), (4, Ni i), (9, Pp b16 0), (10, Ni a)] ?_
 have hS2 : ∀ q ∈ S.take a ++ (⟨numF f.name, qs, (scanA f.b 0).2.1, decide ((scanA f.b 0).2.1 < f.b.length), Ar, cr⟩ : SV) :: S.drop a, SvOk (pz (pl ++ p2 ++ p3)) q := fun q hq => by
     rcases List.mem_append.1 hq with hq | hq
     · exact (hSk q (List.mem_of_mem_take hq)).mono ((pz_app pl p2).trans (pz_app _ p3))
     · rcases List.mem_cons.1 hq with rfl | hq
       · exact hSx
       · exact (hSk q (List.mem_of_mem_drop hq)).mono ((pz_app pl p2).trans (pz_app _ p3))
 refine sw_sr <| Go1 1 11 (.slice none 0 0) <| Dn <| sw_sr ?_
 obtain ⟨A24, hk25, hv26⟩ := hH.row_win 1 rfl 0 a co (by omega) (by omega) (by omega) (by omega)
 refine Go3 3 75 (.slice none 0 0) 76 (.slice Ao S.length co) 77 (Ni a) <| Gq rfl (rd_cut (e := 132) (m := 4) (by kernel_rfl) (by kernel_rfl) rfl (.inl ⟨rfl, rfl⟩) (.inr ⟨_, _, rfl, rfl⟩) hk25) ?_
 replace hH := hH.nilRow 132 4
 refine gl_st (Apd (e := 132) (.agg #[.int .i64 0, .slice none 0 0, .int .i64 0, .bool false]) 4 48 3 rfl hH rfl rfl rfl (Win.reads hH 1 rfl hv26 (by omega) (by omega) (by omega)) (by intro u hu; exact sg_one u (List.mem_of_mem_drop (List.mem_of_mem_take hu))) (by first | (unfold maxLen; omega) | (simp only [List.length_append, List.length_take, List.length_drop, List.length_cons, List.length_nil]; unfold maxLen; omega)) (by first | omega | (simp only [List.length_append, List.length_take, List.length_drop, List.length_cons, List.length_nil]; omega)) ?_)
 clear hH; intro v27 w28 hH
 replace hH := hH.row_eq 3 (l' := (S.take a).length) (xs' := rowC sgC (S.take a)) rfl (by rw [List.length_take]; omega) (by rw [List.nil_append, Nat.zero_mul, List.drop_zero, Nat.sub_zero, rowC_take sgC_len])
 obtain ⟨A29, c30, rfl, hl31, hm32⟩ := hH.row_form 3 rfl
 refine Go1 1 11 (.slice A29 ((S.take a).length) c30) <| Dn <| sw_sr <| Go1 1 80 (.slice A29 ((S.take a).length) c30) <| Gq rfl (La 2 [Ni (numF f.name), .slice Ar qs.length cr, Ni ((scanA f.b 0).2.1), .bool (decide ((scanA f.b 0).2.1 < f.b.length))] hH rfl rfl) <| gl_st (st_buildS (e := 132) (zv := .agg #[.int .i64 0, .slice none 0 0, .int .i64 0, .bool false]) (m := 4) (bytes := 48) rfl rfl rfl (by kernel_rfl) (by kernel_rfl) rfl (cs := [Ni (numF f.name), .slice Ar qs.length cr, Ni ((scanA f.b 0).2.1), .bool (decide ((scanA f.b 0).2.1 < f.b.length))]) (by kernel_rfl) rfl hH ?_)
 clear hH; intro b33 w34 hH
 refine gl_st (Apd (e := 132) (.agg #[.int .i64 0, .slice none 0 0, .int .i64 0, .bool false]) 4 48 3 rfl hH rfl rfl rfl (hH.row_reads 4 rfl) (by simp [Value.oneCell']) (by first | (unfold maxLen; omega) | (simp only [List.length_append, List.length_take, List.length_drop, List.length_cons, List.length_nil]; unfold maxLen; omega)) (by first | omega | (simp only [List.length_append, List.length_take, List.length_drop, List.length_cons, List.length_nil]; omega)) ?_)
 clear hH; intro v35 w36 hH
 replace hH := hH.row_eq 3 (l' := (S.take a ++ [(⟨numF f.name, qs, (scanA f.b 0).2.1, decide ((scanA f.b 0).2.1 < f.b.length), Ar, cr⟩ : SV)]).length) (xs' := rowC sgC (S.take a ++ [(⟨numF f.name, qs, (scanA f.b 0).2.1, decide ((scanA f.b 0).2.1 < f.b.length), Ar, cr⟩ : SV)])) rfl (by rw [List.length_append]; rfl) (by rw [← rowC_app]; rfl)
 obtain ⟨A37, c38, rfl, hl39, hm40⟩ := hH.row_form 3 rfl
 refine Go1 1 11 (.slice A37 ((S.take a ++ [(⟨numF f.name, qs, (scanA f.b 0).2.1, decide ((scanA f.b 0).2.1 < f.b.length), Ar, cr⟩ : SV)]).length) c38) <| Dn <| sw_region ?_
 obtain ⟨A41, hk42, hv43⟩ := hH.row_win 1 rfl a S.length co (by omega) (by omega) (by omega) (by omega)
 refine Go3 3 84 (.slice A37 ((S.take a ++ [(⟨numF f.name, qs, (scanA f.b 0).2.1, decide ((scanA f.b 0).2.1 < f.b.length), Ar, cr⟩ : SV)]).length) c38) 85 (.slice Ao S.length co) 86 (Ni a) <| Gq rfl (rd_cut (e := 132) (m := 4) (by kernel_rfl) (by kernel_rfl) rfl (.inr ⟨_, _, rfl, rfl⟩) (.inl ⟨rfl, rfl⟩) hk42) <| gl_st (Apd (e := 132) (.agg #[.int .i64 0, .slice none 0 0, .int .i64 0, .bool false]) 4 48 3 rfl hH rfl rfl rfl (Win.reads hH 1 rfl hv43 (by omega) (by omega) (by omega)) (by intro u hu; exact sg_one u (List.mem_of_mem_drop (List.mem_of_mem_take hu))) (by first | (unfold maxLen; omega) | (simp only [List.length_append, List.length_take, List.length_drop, List.length_cons, List.length_nil]; unfold maxLen; omega)) (by first | omega | (simp only [List.length_append, List.length_take, List.length_drop, List.length_cons, List.length_nil]; omega)) ?_)
 clear hH; intro v44 w45 hH
 replace hH := hH.row_eq 3 (l' := (S.take a ++ (⟨numF f.name, qs, (scanA f.b 0).2.1, decide ((scanA f.b 0).2.1 < f.b.length), Ar, cr⟩ : SV) :: S.drop a).length) (xs' := rowC sgC (S.take a ++ (⟨numF f.name, qs, (scanA f.b 0).2.1, decide ((scanA f.b 0).2.1 < f.b.length), Ar, cr⟩ : SV) :: S.drop a)) rfl (by simp only [List.length_append, List.length_cons, List.length_nil, List.length_drop]; omega) (sg_last S a _)
 obtain ⟨A46, c47, rfl, hl48, hm49⟩ := hH.row_form 3 rfl
 refine Go1 1 3 (.slice A46 ((S.take a ++ (⟨numF f.name, qs, (scanA f.b 0).2.1, decide ((scanA f.b 0).2.1 < f.b.length), Ar, cr⟩ : SV) :: S.drop a).length) c47) <| Dd <| bkN <| sw_next <| sw_region <| Gw0 2 20 ((i : Int) + 1) ((i + 1 : Nat) : Int) <| Go1 1 4 (Ni (i + 1)) <| Dd <| rnd_end (g := (i, S, Ao, co, pl)) (i + 1, S.take a ++ (⟨numF f.name, qs, (scanA f.b 0).2.1, decide ((scanA f.b 0).2.1 < f.b.length), Ar, cr⟩ : SV) :: S.drop a, A46, c47, pl ++ p2 ++ p3) (by kernel_rfl) ?_ ?_
 replace hH := hH.fr4
 replace hH := (hH.sb (slk (slk sln))).n2
 · exact ⟨by omega, hS2, by rw [segsF_next hf, if_neg hk0, sg_ins (x := (⟨numF f.name, qs, (scanA f.b 0).2.1, decide ((scanA f.b 0).2.1 < f.b.length), Ar, cr⟩ : SV)) hsg a ha]; congr 1; unfold sgF SV.sg; rw [hqs], by simp only [List.length_append, List.length_cons, List.length_take, List.length_drop]; omega, hH⟩
 · show L.length - (i + 1) < L.length - i; omega
 refine sw_exit <| thX <| thX <| bkH <| sw_next <| sw_sr <| Go1 2 2 (.slice Ao S.length co) <| Dn <| Rt1 rfl rfl ?_
 replace hH := (hH.sb (slk (slk sln))).n2
 have hie : L.length ≤ i := by omega
 rw [List.take_of_length_le (by rw [List.length_map]; exact hie)] at hsg
 exact ⟨_, S, pl, rfl, ⟨hsg, hSk⟩, hH.fresh⟩
end Go.Proofs.YtajapgjemefoiaaGreatDoor
/- Layer 19, the document's own answer: a log read from its files, frame by frame, and the program's reading. Plain mathematics. -/
set_option linter.unusedVariables false
namespace Go.Proofs.YtajapgjemefoiaaGreatDoor
open Go.SW Go.RowKit
def rcD (p : List UInt8) : Rc := (readR p).getD ⟨0, 0, 0, 0, []⟩
def decP (q : SV) : PV := ⟨q.k, q.whole, q.more, q.fr.map fun x => (rcD x.1, x.2), q.A, q.cap⟩
theorem rowsR_all : ∀ {l : List (List UInt8)}, (∀ p ∈ l, readR p ≠ none) → rowsR l = some (l.map rcD)
  | [], _ => rfl
  | p :: l, h => by
    have h1 := rowsR_all (fun q hq => h q (List.mem_cons_of_mem _ hq) : ∀ q ∈ l, readR q ≠ none)
    cases hr : readR p with
    | none => exact absurd hr (h p List.mem_cons_self)
    | some r =>
      rw [rowsR, hr, h1]
      simp [rcD, hr]
theorem rowsR_bad : ∀ {l : List (List UInt8)} {p : List UInt8}, p ∈ l → readR p = none → rowsR l = none
  | [], _, h, _ => by cases h
  | x :: l, p, h, hr => by
    rw [rowsR]
    rcases List.mem_cons.1 h with rfl | h
    · rw [hr]; rfl
    · rw [rowsR_bad h hr]
      cases readR x <;> rfl
theorem decS_all {q : SV} (h : ∀ x ∈ q.fr, readR x.1 ≠ none) : decS q.sg = some (decP q).pt := by
  unfold decS SV.sg
  simp only
  rw [rowsR_all (fun p hp => by obtain ⟨x, hx, rfl⟩ := List.mem_map.1 hp; exact h x hx)]
  simp [decP, PV.pt, PV.recs, Function.comp_def]
theorem decS_bad {q : SV} {x : List UInt8 × Value} (hx : x ∈ q.fr) (h : readR x.1 = none) : decS q.sg = none := by
  unfold decS SV.sg
  simp only
  rw [rowsR_bad (List.mem_map.2 ⟨x, hx, rfl⟩) h]; rfl
theorem decAll_all : ∀ {S : List SV}, (∀ q ∈ S, ∀ x ∈ q.fr, readR x.1 ≠ none) → decAll (S.map SV.sg) = some ((S.map decP).map PV.pt)
  | [], _ => rfl
  | q :: S, h => by
    show (decS q.sg).bind (fun p => (decAll (S.map SV.sg)).map (p :: ·)) = _
    rw [decS_all (h q List.mem_cons_self), decAll_all (fun r hr => h r (List.mem_cons_of_mem _ hr))]; rfl
theorem decAll_bad : ∀ {S : List SV} {q : SV} {x : List UInt8 × Value}, q ∈ S → x ∈ q.fr → readR x.1 = none → decAll (S.map SV.sg) = none
  | [], _, _, h, _, _ => by cases h
  | s :: S, q, x, h, hx, hr => by
    show (decS s.sg).bind (fun p => (decAll (S.map SV.sg)).map (p :: ·)) = _
    rcases List.mem_cons.1 h with rfl | h
    · rw [decS_bad hx hr]; rfl
    · rw [decAll_bad h hx hr]
      cases decS s.sg <;> rfl
def readS (l : List Sg) : Option (Nat × Cn) := (decAll l).bind readL
theorem readS_bad {S : List SV} {q : SV} {x : List UInt8 × Value} (h : q ∈ S) (hx : x ∈ q.fr) (hr : readR x.1 = none) : readS (S.map SV.sg) = none := by unfold readS; rw [decAll_bad h hx hr]; rfl
theorem readS_all {S : List SV} (h : ∀ q ∈ S, ∀ x ∈ q.fr, readR x.1 ≠ none) : readS (S.map SV.sg) = readL ((S.map decP).map PV.pt) := by unfold readS; rw [decAll_all h]; rfl
theorem all_or (S : List SV) : (∀ q ∈ S, ∀ x ∈ q.fr, readR x.1 ≠ none) ∨ readS (S.map SV.sg) = none := by
  by_cases h : ∀ q ∈ S, ∀ x ∈ q.fr, readR x.1 ≠ none
  · exact .inl h
  · refine .inr ?_
    have h2 : ∃ q ∈ S, ∃ x ∈ q.fr, readR x.1 = none := Classical.byContradiction fun hn => h fun q hq x hx hr => hn ⟨q, hq, x, hx, hr⟩
    obtain ⟨q, hq, x, hx, hr⟩ := h2
    exact readS_bad hq hx hr
theorem readS_amiss {S : List SV} {i : Nat} {q : PV} (hq : (S.map decP)[i]? = some q) (h : amiss (S.map decP) i q) : readS (S.map SV.sg) = none := by
  rcases all_or S with h1 | h1
  · rw [readS_all h1]
    unfold readL
    rw [if_neg (okP_not hq h)]
  · exact h1
theorem isB_base {q : SV} (h : ∀ x ∈ q.fr, readR x.1 ≠ none) : isB (q.fr.map (·.1)) = isBase (decP q).pt := by
  obtain ⟨k, fr, wh, mo, A, cap⟩ := q
  cases fr with
  | nil => rfl
  | cons x l =>
    have hx := h x List.mem_cons_self
    cases hr : readR x.1 with
    | none => exact absurd hr hx
    | some r => simp [isB, isBase, decP, PV.pt, PV.recs, rcD, hr]
theorem readS_no {S : List SV} (h : ∀ q ∈ S, ∀ x ∈ q.fr, readR x.1 ≠ none) (hok : okP ((S.map decP).map PV.pt) = true) (hf : fromP ((S.map decP).map PV.pt) = none) : readS (S.map SV.sg) = none := by
  rw [readS_all h]
  unfold readL
  rw [if_pos hok, hf]; rfl
theorem readS_from {S : List SV} (h : ∀ q ∈ S, ∀ x ∈ q.fr, readR x.1 ≠ none) (hok : okP ((S.map decP).map PV.pt) = true) {f : Nat} (hf : fromP ((S.map decP).map PV.pt) = some f) : readS (S.map SV.sg) = (doAll Cn.zero (((S.map decP).drop f).map PV.recs).flatten true).map fun c => (f, c) := by
  rw [readS_all h]
  exact readL_pv hok hf
theorem rcD_ok {p : List UInt8} (h : readR p ≠ none) : readR p = some (rcD p) := by
  cases hr : readR p with
  | none => exact absurd hr h
  | some r => simp [rcD, hr]
end Go.Proofs.YtajapgjemefoiaaGreatDoor
/- Layer 19, the document's own answer (muntinref19): a log is read from its files: what it answers. -/
set_option maxRecDepth 100000
set_option maxHeartbeats 4000000
set_option linter.unusedVariables false
set_option linter.unusedSimpArgs false
namespace Go.Proofs.YtajapgjemefoiaaGreatDoor
open Go.RowKit Go.SW
theorem amiss_dec {S : List SV} {i : Nat} (q : SV) : amiss (S.map decP) i (decP q) ↔ (100000000 < q.k ∨ (0 < i ∧ kPrev (S.map decP) i + 1 ≠ q.k) ∨ (q.more = true ∧ i + 1 < S.length)) := by
  unfold amiss
  rw [List.length_map]
  exact Iff.rfl
theorem dec_at {S : List SV} {i : Nat} {q : SV} (h : S[i]? = some q) : (S.map decP)[i]? = some (decP q) := by rw [List.getElem?_map, h]; rfl
theorem kPrev_dec {S : List SV} {i : Nat} {q : SV} (h : S[i - 1]? = some q) : kPrev (S.map decP) i = q.k := by unfold kPrev; rw [dec_at h]; rfl
theorem good_nx {S : List SV} {i : Nat} {q : SV} (h : ∀ (j : Nat) (q : SV), j < i → S[j]? = some q → ∀ x ∈ q.fr, readR x.1 ≠ none) (hq : S[i]? = some q) (hg : ∀ x ∈ q.fr, readR x.1 ≠ none) : ∀ (j : Nat) (q : SV), j < i + 1 → S[j]? = some q → ∀ x ∈ q.fr, readR x.1 ≠ none := by
  intro j r hj hr
  rcases Nat.lt_succ_iff_lt_or_eq.1 hj with h1 | rfl
  · exact h j r h1 hr
  · rw [hq] at hr; cases hr; exact hg
theorem fr_nx {q : SV} {k : Nat} {x : List UInt8 × Value} (h : ∀ (j : Nat) (x : List UInt8 × Value), j < k → q.fr[j]? = some x → readR x.1 ≠ none) (hx : q.fr[k]? = some x) (hg : readR x.1 ≠ none) : ∀ (j : Nat) (x : List UInt8 × Value), j < k + 1 → q.fr[j]? = some x → readR x.1 ≠ none := by
  intro j y hj hy
  rcases Nat.lt_succ_iff_lt_or_eq.1 hj with h1 | rfl
  · exact h j y h1 hy
  · rw [hx] at hy; cases hy; exact hg
theorem fr_all {q : SV} {k : Nat} (h : ∀ (j : Nat) (x : List UInt8 × Value), j < k → q.fr[j]? = some x → readR x.1 ≠ none) (hk : q.fr.length ≤ k) : ∀ x ∈ q.fr, readR x.1 ≠ none := fun x hx => by
  obtain ⟨j, hj⟩ := List.getElem?_of_mem hx
  exact h j x (Nat.lt_of_lt_of_le (List.getElem?_eq_some_iff.1 hj).1 hk) hj
theorem recs_ok2 {qs : List PV} (h : ∀ q ∈ qs, ∀ r ∈ q.recs, RcOk r) {j : Nat} {q : PV} (hq : qs[j]? = some q) (k : Nat) : ∀ r ∈ recsN qs j ++ q.recs.take k, RcOk r := by
  intro r hr
  obtain ⟨M, e⟩ := recsN_split hq k
  have : r ∈ (qs.map PV.recs).flatten := by rw [e]; exact List.mem_append_left _ hr
  obtain ⟨l, hl, hr2⟩ := List.mem_flatten.1 this
  obtain ⟨x, hx, rfl⟩ := List.mem_map.1 hl
  exact h x hx r hr2
theorem dec_ok {S : List SV} (h : ∀ q ∈ S, ∀ x ∈ q.fr, readR x.1 ≠ none) : ∀ q ∈ S.map decP, ∀ r ∈ q.recs, RcOk r := by
  intro q hq r hr
  obtain ⟨s, hs, rfl⟩ := List.mem_map.1 hq
  obtain ⟨y, hy, rfl⟩ := List.mem_map.1 hr
  obtain ⟨x, hx, rfl⟩ := List.mem_map.1 hy
  exact readR_ok (rcD_ok (h s hs x hx))
theorem row_ns {c : Zone} {v : Value} {ns : List Int} {r : Rc} (h : Row c v 1 ns.length (iv ns)) (e : ns = rcN r) : Row c v 1 (rcN r).length (iv (rcN r)) := by subst e; exact h
theorem rb_ns {c : Zone} {v : Value} {d : List UInt8} {r : Rc} (h : RB c v d) (e : d = r.d) : RB c v r.d := by subst e; exact h
theorem dec_rs {q : SV} {k : Nat} {x : List UInt8} {vx : Value} (h : q.fr[k]? = some (x, vx)) : (decP q).rs[k]? = some (rcD x, vx) := by
  show (q.fr.map _)[k]? = _
  rw [List.getElem?_map, h]; rfl
theorem decP_len (q : SV) : (decP q).rs.length = q.fr.length := List.length_map ..

theorem RRead19_ct (g xb : Nat) (fi bad : Int) (vf : Value) (S : List SV) (pl : Pl) (Zp : Zone) (w : World) (hM : Mine w [rlO g xb Cn.zero (.slice none 0 0) fi bad, plO pl]) (hZ : Zp.le (off w (blksOf [rlO g xb Cn.zero (.slice none 0 0) fi bad, plO pl]))) (hF : Row (off w (blksOf [rlO g xb Cn.zero (.slice none 0 0) fi bad, plO pl])) vf 4 S.length (rowC sgC S)) (hP0 : ∀ q ∈ S, SvOk Zp q) (hn : S.length ≤ 1000) (hrs : recN (S.map decP) ≤ 1000000) :
    Fun Tryz.prog 64 [.pointer (some ⟨g, 0, none⟩), vf] w fun v w' => (readS (S.map SV.sg) = none ∧ v = .tuple #[.int .i64 0, .bool false] ∧ Turn w w' [rlO g xb Cn.zero (.slice none 0 0) fi bad, plO pl] []) ∨
      (∃ i c2 es2 ve2 pl2, readS (S.map SV.sg) = some (i, c2) ∧ v = .tuple #[.int .i64 ((i : Nat) : Int), .bool true] ∧ CnR pl2 c2 es2 ve2 ∧ Turn w w' [rlO g xb Cn.zero (.slice none 0 0) fi bad, plO pl] [rlO g xb c2 ve2 fi bad, plO pl2]) := by
 obtain ⟨Af0, cf, rfl, hf1, hf2⟩ := hF.form
 have hP : ∀ q ∈ S, SvOk (off w (blksOf [rlO g xb Cn.zero (.slice none 0 0) fi bad, plO pl])) q := fun q hq => (hP0 q hq).mono hZ
 refine fun_of_sw Tryz.func64 rfl 142 rfl rfl ?_
 have hH := Hp.start_mine hM
 refine sw_sr <| Go0 2 <| Dn <| sw_sr <| Go1 1 6 (.int .i64 (-1)) <| Dn <| sw_seq <| sw_sr <| Go1 1 7 (.int .i64 0) <| Dn <| sw_block <| Lp (γ := Nat × Int) hH (fun (i, fr) => [(0, Pp g 0), (1, .slice Af0 S.length cf), (6, .int .i64 fr), (7, Ni i)]) (fun (i, fr) w_ H_ => (i ≤ S.length) ∧ (∀ j : Nat, j < i → ∀ q, (S.map decP)[j]? = some q → ¬ amiss (S.map decP) j q) ∧ (fr = fromV (fromP (((S.map decP).take i).map PV.pt))) ∧ (∀ (j : Nat) (q : SV), j < i → S[j]? = some q → ∀ x ∈ q.fr, readR x.1 ≠ none) ∧ H_ [.blk g 91 [Pp xb 0, .int .i64 0, .int .i64 0, .int .i64 0, .int .i64 0, .slice none 0 0, .int .i64 fi, .int .i64 bad], plO pl]) (fun (i, fr) => S.length - i) (0, (-1)) ?_ ?_
 · exact ⟨by omega, fun j hj => absurd hj (by omega), rfl, fun j q hj => absurd hj (by omega), hH⟩
 clear hH
 rintro ⟨i, fr⟩ w1 ⟨hi, hall, hfr, hgood, hH⟩
 refine swk [(0, Pp g 0), (1, .slice Af0 S.length cf), (6, .int .i64 fr), (7, Ni i)] <| sw_seq <| sw_sr <| Go2 2 19 (Ni i) 20 (.slice Af0 S.length cf) <| Gq rfl (Ln (e := 132) rfl) <| Go1 1 22 (.bool (decide ((i : Int) < ((S.length : Nat) : Int)))) <| Dn <| If rfl (fun hc1 => ?_) (fun hc1 => ?_)
 refine Sk <| sw_seq <| sw_block <| sw_seq ?_
 obtain ⟨q, hq⟩ : ∃ q, S[i]? = some q := ⟨_, List.getElem?_eq_getElem (by omega)⟩
 have hqok := hP q (List.mem_of_getElem? hq)
 have qrow := hqok.row
 obtain ⟨_, _, _, hfl8, hfl9⟩ := qrow.form
 simp only [maxLen] at hfl9
 have hqk := hqok.k
 have hqd := dec_at hq
 have hfx := from_nx hqd
 have ham := amiss_dec (S := S) (i := i) q
 refine Cu (γ := Bool) hH (fun bd => [(0, Pp g 0), (1, .slice Af0 S.length cf), (6, .int .i64 fr), (7, Ni i), (63, .bool bd)]) (fun bd w_ H_ => (bd = true ↔ amiss (S.map decP) i (decP q)) ∧ H_ [.blk g 91 [Pp xb 0, .int .i64 0, .int .i64 0, .int .i64 0, .int .i64 0, .slice none 0 0, .int .i64 fi, .int .i64 bad], plO pl]) ?_ ?_
 ·
  refine Dr hH (slk (slk sln)) ?_
  clear hH; intro w2 hH hS9
  obtain ⟨p3, hi5, hp4⟩ := hF.idx i (by omega) (by decide)
  refine Gp2 2 [0,1] 25 (.slice Af0 S.length cf) 26 (Ni i) hS9 <| Dq 2 rfl (fun _ hS => (Ix (e := 132) 4 rfl rfl hi5)) hS9 <| Gp1 1 [3] 28 (.pointer (some p3)) hS9 <| Dq 4 rfl (fun _ hS => (rd_load (by kernel_rfl) rfl (hS.zin _ _ (hp4 0 _ (by decide) (rowC_at sgC_len hq 0 (by decide) rfl))))) hS9 <| Gp1 2 [5,6] 31 (.bool (decide (((q.k : Nat) : Int) > (100000000 : Int)))) hS9 <| Di 31 rfl (fun hg2 => ?_) (fun hg2 => ?_)
  refine Gp1 32 [7,8,9,10,11,12,13,14,15,16,17,18,19,20,21,22,23,24,25,26,27,28,29,30,31,32,33,34,35,36,37,38] 63 (.bool true) hS9 <| gdn [(0, Pp g 0), (1, .slice Af0 S.length cf), (6, .int .i64 fr), (7, Ni i), (63, .bool true)] <| Ce (true) ?_
  replace hH := (hH.sb (slk (slk sln))).n2
  exact ⟨by
    rw [ham]
    first
    | exact ⟨fun _ => .inl (by omega), fun _ => rfl⟩
    | exact ⟨fun _ => .inr (.inl ⟨by omega, by omega⟩), fun _ => rfl⟩
    | exact ⟨fun h => .inr (.inr ⟨h, by omega⟩), fun h => by rcases h with h | h | h <;> first | (exfalso; omega) | exact h.1⟩
    | exact ⟨fun h => Bool.noConfusion h, fun h => by exfalso; rcases h with h | h | h <;> first | omega | (have h2 := h.2; omega)⟩, hH⟩
  refine Gp1 3 [7,8,9] 34 (.bool (decide ((i : Int) > (0 : Int)))) hS9 <| Di 34 rfl (fun hg3 => ?_) (fun hg3 => ?_)
  obtain ⟨q0, hq0⟩ : ∃ x, S[i - 1]? = some x := ⟨_, List.getElem?_eq_getElem (by omega)⟩
  have hkp := kPrev_dec hq0
  have hq0k := (hP q0 (List.mem_of_getElem? hq0)).k
  obtain ⟨p6, hi8, hp7⟩ := hF.idx i (by omega) (by decide)
  refine Gp2 2 [10,11] 35 (.slice Af0 S.length cf) 36 (Ni i) hS9 <| Dq 12 rfl (fun _ hS => (Ix (e := 132) 4 rfl rfl hi8)) hS9 <| Gp1 1 [13] 38 (.pointer (some p6)) hS9 <| Dq 14 rfl (fun _ hS => (rd_load (by kernel_rfl) rfl (hS.zin _ _ (hp7 0 _ (by decide) (rowC_at sgC_len hq 0 (by decide) rfl))))) hS9 <| Dw2 3 [15,16,17] 42 ((i : Int) - 1) ((i - 1 : Nat) : Int) 40 (.slice Af0 S.length cf) 41 (Ni i) hS9 ?_
  obtain ⟨p9, hi11, hp10⟩ := hF.idx (i - 1) (by omega) (by decide)
  refine Dq 18 rfl (fun _ hS => (Ix (e := 132) 4 rfl rfl hi11)) hS9 <| Gp1 1 [19] 44 (.pointer (some p9)) hS9 <| Dq 20 rfl (fun _ hS => (rd_load (by kernel_rfl) rfl (hS.zin _ _ (hp10 0 _ (by decide) (rowC_at sgC_len hq0 0 (by decide) rfl))))) hS9 <| gdk [(0, Pp g 0), (1, .slice Af0 S.length cf), (6, .int .i64 fr), (7, Ni i), (31, .bool false), (34, .bool true), (39, Ni q.k), (45, Ni q0.k)] <| Dw0 1 [21] 46 (((q0.k : Nat) : Int) + 1) ((q0.k + 1 : Nat) : Int) hS9 <| Gp1 4 [22,23,24,25] 50 (.bool (((q.k : Nat) : Int) != ((q0.k + 1 : Nat) : Int))) hS9 <| Di 50 rfl (fun hg4 => ?_) (fun hg4 => ?_)
  refine Gp1 13 [26,27,28,29,30,31,32,33,34,35,36,37,38] 63 (.bool true) hS9 <| gdn [(0, Pp g 0), (1, .slice Af0 S.length cf), (6, .int .i64 fr), (7, Ni i), (63, .bool true)] <| Ce (true) ?_
  replace hH := (hH.sb (slk (slk sln))).n2
  exact ⟨by
    rw [ham]
    first
    | exact ⟨fun _ => .inl (by omega), fun _ => rfl⟩
    | exact ⟨fun _ => .inr (.inl ⟨by omega, by omega⟩), fun _ => rfl⟩
    | exact ⟨fun h => .inr (.inr ⟨h, by omega⟩), fun h => by rcases h with h | h | h <;> first | (exfalso; omega) | exact h.1⟩
    | exact ⟨fun h => Bool.noConfusion h, fun h => by exfalso; rcases h with h | h | h <;> first | omega | (have h2 := h.2; omega)⟩, hH⟩
  refine Gp2 2 [26,27] 51 (Ni i) 52 (.slice Af0 S.length cf) hS9 <| Dq 28 rfl (fun _ hS => (Ln (e := 132) rfl)) hS9 <| Dw0 1 [29] 54 (((S.length : Nat) : Int) - 1) ((S.length - 1 : Nat) : Int) hS9 <| Gp1 2 [30,31] 56 (.bool (decide ((i : Int) < ((S.length - 1 : Nat) : Int)))) hS9 <| Di 56 rfl (fun hg5 => ?_) (fun hg5 => ?_)
  obtain ⟨p12, hi14, hp13⟩ := hF.idx i (by omega) (by decide)
  refine Gp2 2 [32,33] 57 (.slice Af0 S.length cf) 58 (Ni i) hS9 <| Dq 34 rfl (fun _ hS => (Ix (e := 132) 4 rfl rfl hi14)) hS9 <| Gp1 1 [35] 60 (.pointer (some (p12.add 3))) hS9 <| Dq 36 rfl (fun _ hS => (rd_load (by kernel_rfl) rfl (hS.zin _ _ (hp13 3 _ (by decide) (rowC_at sgC_len hq 3 (by decide) rfl))))) hS9 <| Gp1 2 [37,38] 63 (.bool q.more) hS9 <| gdn [(0, Pp g 0), (1, .slice Af0 S.length cf), (6, .int .i64 fr), (7, Ni i), (63, .bool q.more)] <| Ce (q.more) ?_
  replace hH := (hH.sb (slk (slk sln))).n2
  exact ⟨by
    rw [ham]
    first
    | exact ⟨fun _ => .inl (by omega), fun _ => rfl⟩
    | exact ⟨fun _ => .inr (.inl ⟨by omega, by omega⟩), fun _ => rfl⟩
    | exact ⟨fun h => .inr (.inr ⟨h, by omega⟩), fun h => by rcases h with h | h | h <;> first | (exfalso; omega) | exact h.1⟩
    | exact ⟨fun h => Bool.noConfusion h, fun h => by exfalso; rcases h with h | h | h <;> first | omega | (have h2 := h.2; omega)⟩, hH⟩
  refine Gp1 7 [32,33,34,35,36,37,38] 63 (.bool false) hS9 <| gdn [(0, Pp g 0), (1, .slice Af0 S.length cf), (6, .int .i64 fr), (7, Ni i), (63, .bool false)] <| Ce (false) ?_
  replace hH := (hH.sb (slk (slk sln))).n2
  exact ⟨by
    rw [ham]
    first
    | exact ⟨fun _ => .inl (by omega), fun _ => rfl⟩
    | exact ⟨fun _ => .inr (.inl ⟨by omega, by omega⟩), fun _ => rfl⟩
    | exact ⟨fun h => .inr (.inr ⟨h, by omega⟩), fun h => by rcases h with h | h | h <;> first | (exfalso; omega) | exact h.1⟩
    | exact ⟨fun h => Bool.noConfusion h, fun h => by exfalso; rcases h with h | h | h <;> first | omega | (have h2 := h.2; omega)⟩, hH⟩
  refine Gp3 18 [10,11,12,13,14,15,16,17,18,19,20,21,22,23,24,25,26,27] 50 (.bool false) 51 (Ni i) 52 (.slice Af0 S.length cf) hS9 <| Dq 28 rfl (fun _ hS => (Ln (e := 132) rfl)) hS9 <| Dw0 1 [29] 54 (((S.length : Nat) : Int) - 1) ((S.length - 1 : Nat) : Int) hS9 <| Gp1 2 [30,31] 56 (.bool (decide ((i : Int) < ((S.length - 1 : Nat) : Int)))) hS9 <| Di 56 rfl (fun hg6 => ?_) (fun hg6 => ?_)
  obtain ⟨p15, hi17, hp16⟩ := hF.idx i (by omega) (by decide)
  refine Gp2 2 [32,33] 57 (.slice Af0 S.length cf) 58 (Ni i) hS9 <| Dq 34 rfl (fun _ hS => (Ix (e := 132) 4 rfl rfl hi17)) hS9 <| Gp1 1 [35] 60 (.pointer (some (p15.add 3))) hS9 <| Dq 36 rfl (fun _ hS => (rd_load (by kernel_rfl) rfl (hS.zin _ _ (hp16 3 _ (by decide) (rowC_at sgC_len hq 3 (by decide) rfl))))) hS9 <| gdk [(0, Pp g 0), (1, .slice Af0 S.length cf), (6, .int .i64 fr), (7, Ni i), (50, .bool false), (56, .bool true), (61, .bool q.more)] <| Gp1 2 [37,38] 63 (.bool q.more) hS9 <| gdn [(0, Pp g 0), (1, .slice Af0 S.length cf), (6, .int .i64 fr), (7, Ni i), (63, .bool q.more)] <| Ce (q.more) ?_
  replace hH := (hH.sb (slk (slk sln))).n2
  exact ⟨by
    rw [ham]
    first
    | exact ⟨fun _ => .inl (by omega), fun _ => rfl⟩
    | exact ⟨fun _ => .inr (.inl ⟨by omega, by omega⟩), fun _ => rfl⟩
    | exact ⟨fun h => .inr (.inr ⟨h, by omega⟩), fun h => by rcases h with h | h | h <;> first | (exfalso; omega) | exact h.1⟩
    | exact ⟨fun h => Bool.noConfusion h, fun h => by exfalso; rcases h with h | h | h <;> first | omega | (have h2 := h.2; omega)⟩, hH⟩
  refine Gp1 7 [32,33,34,35,36,37,38] 63 (.bool false) hS9 <| gdn [(0, Pp g 0), (1, .slice Af0 S.length cf), (6, .int .i64 fr), (7, Ni i), (63, .bool false)] <| Ce (false) ?_
  replace hH := (hH.sb (slk (slk sln))).n2
  exact ⟨by
    rw [ham]
    first
    | exact ⟨fun _ => .inl (by omega), fun _ => rfl⟩
    | exact ⟨fun _ => .inr (.inl ⟨by omega, by omega⟩), fun _ => rfl⟩
    | exact ⟨fun h => .inr (.inr ⟨h, by omega⟩), fun h => by rcases h with h | h | h <;> first | (exfalso; omega) | exact h.1⟩
    | exact ⟨fun h => Bool.noConfusion h, fun h => by exfalso; rcases h with h | h | h <;> first | omega | (have h2 := h.2; omega)⟩, hH⟩
 clear hH
 rintro bd w18 ⟨hbd, hH⟩
 refine swk [(0, Pp g 0), (1, .slice Af0 S.length cf), (6, .int .i64 fr), (7, Ni i), (63, .bool bd)] <| If rfl (fun hc7 => ?_) (fun hc7 => ?_)
 have hbt := hc7
 refine sw_sr <| Go2 2 4 (.int .i64 0) 5 (.bool false) <| Dn <| Rt2 rfl rfl rfl ?_
 exact .inl ⟨readS_amiss hqd (hbd.1 hbt), rfl, (hH.sb (List.nil_sublist _)).turned⟩
 have hfine : ¬ amiss (S.map decP) i (decP q) := fun h => by have := hbd.2 h; rw [this] at hc7; cases hc7
 refine Sk <| sw_seq <| sw_sr <| Go1 1 8 (.int .i64 0) <| Dn <| sw_block ?_
 replace hH := (hH.sb (slk (slk sln))).n2
 refine Lp (γ := Nat) hH (fun k => [(0, Pp g 0), (1, .slice Af0 S.length cf), (6, .int .i64 fr), (7, Ni i), (8, Ni k)]) (fun k w_ H_ => (k ≤ q.fr.length) ∧ (∀ (j : Nat) (x : List UInt8 × Value), j < k → q.fr[j]? = some x → readR x.1 ≠ none) ∧ H_ [.blk g 91 [Pp xb 0, .int .i64 0, .int .i64 0, .int .i64 0, .int .i64 0, .slice none 0 0, .int .i64 fi, .int .i64 bad], plO pl]) (fun k => q.fr.length - k) (0) ?_ ?_
 · exact ⟨Nat.zero_le _, fun j x hj => absurd hj (by omega), hH⟩
 clear hH
 rintro k w19 ⟨hk, hkg, hH⟩
 refine swk [(0, Pp g 0), (1, .slice Af0 S.length cf), (6, .int .i64 fr), (7, Ni i), (8, Ni k)] <| sw_seq <| sw_sr ?_
 obtain ⟨p20, hi22, hp21⟩ := hF.idx i (by omega) (by decide)
 refine Go3 3 64 (Ni k) 65 (.slice Af0 S.length cf) 66 (Ni i) <| Gq rfl (Ix (e := 132) 4 rfl rfl hi22) <| Go1 1 68 (.pointer (some (p20.add 1))) <| Gq rfl (rd_load (by kernel_rfl) rfl (hH.zin _ _ (hp21 1 _ (by decide) (rowC_at sgC_len hq 1 (by decide) rfl)))) <| Gq rfl (Ln (e := 37) rfl) <| Go1 1 71 (.bool (decide ((k : Int) < ((q.fr.length : Nat) : Int)))) <| Dn <| If rfl (fun hc8 => ?_) (fun hc8 => ?_)
 refine Sk <| sw_seq <| sw_block ?_
 obtain ⟨⟨x, vx⟩, hx⟩ : ∃ x, q.fr[k]? = some x := ⟨_, List.getElem?_eq_getElem (by omega)⟩
 have kp : RB _ vx x := hqok.fr _ (List.mem_of_getElem? hx)
 obtain ⟨Ap, cp, rfl, _, _⟩ := kp.row.form
 refine sw_sr ?_
 obtain ⟨p23, hi25, hp24⟩ := hF.idx i (by omega) (by decide)
 refine Go2 2 75 (.slice Af0 S.length cf) 76 (Ni i) <| Gq rfl (Ix (e := 132) 4 rfl rfl hi25) <| Go1 1 78 (.pointer (some (p23.add 1))) <| Gq rfl (rd_load (by kernel_rfl) rfl (hH.zin _ _ (hp24 1 _ (by decide) (rowC_at sgC_len hq 1 (by decide) rfl)))) ?_
 obtain ⟨p26, hi28, hp27⟩ := qrow.idx k (by omega) (by decide)
 refine Go1 1 80 (Ni k) <| Gq rfl (Ix (e := 37) 1 rfl rfl hi28) <| Gq rfl (rd_load (by kernel_rfl) rfl (hH.zin _ _ (hp27 0 _ (by decide) (rowC_at rqC_len hx 0 (by decide) rfl)))) <| gl_st (Sc rfl rfl (Record_ct _ x _ (kp.mono hH.zin)) ?_)
 rintro _ w37 ⟨v29, v30, ns31, d32, ok33, rfl, hr34, hF38⟩
 replace hH := hH.call hF38
 obtain ⟨A39, c40, rfl, hl41, hm42⟩ := hH.row_form 2 rfl
 obtain ⟨A43, c44, rfl, hl45, hm46⟩ := hH.row_form 3 rfl
 refine Go1 7 11 (.bool ok33) <| Dn <| sw_sr <| Go1 2 88 (.bool (!ok33)) <| Dn <| If rfl (fun hc9 => ?_) (fun hc9 => ?_)
 have hok : ok33 = false := by simpa using hc9
 have hrn := (hr34.resolve_right (fun h => by rw [h.1] at hok; cases hok)).2
 refine sw_sr <| Go2 2 4 (.int .i64 0) 5 (.bool false) <| Dn <| Rt2 rfl rfl rfl ?_
 exact .inl ⟨readS_bad (List.mem_of_getElem? hq) (List.mem_of_getElem? hx) hrn, rfl, (hH.sb (List.nil_sublist _)).turned⟩
 have hok : ok33 = true := by simpa using hc9
 obtain ⟨r, hrr, hns, hdd⟩ := (hr34.resolve_left (fun h => by rw [h.1] at hok; cases hok)).2
 refine sw_skip <| bkN <| sw_next <| sw_region <| Gw0 2 73 ((k : Int) + 1) ((k + 1 : Nat) : Int) <| Go1 1 8 (Ni (k + 1)) <| Dd <| rnd_end (g := (k)) (k + 1) (by kernel_rfl) ?_ ?_
 replace hH := (hH.sb (slk (slk sln))).n2
 · exact ⟨by omega, fr_nx hkg hx (by rw [hrr]; simp), hH⟩
 · show q.fr.length - (k + 1) < q.fr.length - k; omega
 refine sw_exit <| thX <| thX <| bkH <| sw_next ?_
 have hqg := fr_all hkg (by omega)
 have hib := isB_base hqg
 refine sw_sr ?_
 obtain ⟨p47, hi49, hp48⟩ := hF.idx i (by omega) (by decide)
 refine Go2 2 89 (.slice Af0 S.length cf) 90 (Ni i) <| Gq rfl (Ix (e := 132) 4 rfl rfl hi49) <| Gq rfl (rd_loadZA (by kernel_rfl) hH hp48 rfl 0 rfl [Ni q.k, .slice q.A q.fr.length q.cap, Ni q.whole, .bool q.more] (by kernel_rfl) (rowC_all sgC_len hq 0 _ rfl)) <| gl_st (Sc rfl rfl (Begins_ct q.k q.whole q.more _ q.fr _ (qrow.mono hH.zin) (fun r hr => (hqok.fr r hr).mono hH.zin)) ?_)
 rintro _ w50 ⟨rfl, hF51⟩
 replace hH := hH.call hF51
 refine Go1 1 12 (.bool (isB (q.fr.map (·.1)))) <| Dn <| sw_sr <| Go1 1 94 (.bool (isB (q.fr.map (·.1)))) <| Dn <| If rfl (fun hc10 => ?_) (fun hc10 => ?_)
 have hisb := hc10
 refine sw_region <| Go1 2 6 (Ni i) <| Dd <| bkN <| sw_next <| sw_region <| Gw0 2 24 ((i : Int) + 1) ((i + 1 : Nat) : Int) <| Go1 1 7 (Ni (i + 1)) <| Dd <| rnd_end (g := (i, fr)) (i + 1, ((i : Nat) : Int)) (by kernel_rfl) ?_ ?_
 replace hH := (hH.sb (slk (slk sln))).n2
 · exact ⟨by omega, amiss_nx hall hqd hfine, by rw [hfx, if_pos (by rw [← hib]; exact hisb)]; rfl, good_nx hgood hq hqg, hH⟩
 · show S.length - (i + 1) < S.length - i; omega
 have hisb := hc10
 refine sw_skip <| bkN <| sw_next <| sw_region <| Gw0 2 24 ((i : Int) + 1) ((i + 1 : Nat) : Int) <| Go1 1 7 (Ni (i + 1)) <| Dd <| rnd_end (g := (i, fr)) (i + 1, fr) (by kernel_rfl) ?_ ?_
 replace hH := (hH.sb (slk (slk sln))).n2
 · exact ⟨by omega, amiss_nx hall hqd hfine, by rw [hfx, if_neg (by rw [← hib, hisb]; simp)]; exact hfr, good_nx hgood hq hqg, hH⟩
 · show S.length - (i + 1) < S.length - i; omega
 refine sw_exit <| thX <| thX <| bkH <| sw_next <| sw_seq ?_
 have hie : S.length ≤ i := by omega
 rw [List.take_of_length_le (by rw [List.length_map]; exact hie)] at hfr
 have hgall : ∀ q ∈ S, ∀ x ∈ q.fr, readR x.1 ≠ none := fun q hq => by obtain ⟨j, hj⟩ := List.getElem?_of_mem hq; exact hgood j q (Nat.lt_of_lt_of_le (List.getElem?_eq_some_iff.1 hj).1 hie) hj
 have hokP := okP_all (fun j q hq => hall j (by have := (List.getElem?_eq_some_iff.1 hq).1; rw [List.length_map] at this; omega) q hq)
 refine sw_sr <| Go1 2 97 (.bool (decide ((fr : Int) < (0 : Int)))) <| Dn <| If rfl (fun hc11 => ?_) (fun hc11 => ?_)
 refine sw_sr <| Go2 2 4 (.int .i64 0) 5 (.bool false) <| Dn <| Rt2 rfl rfl rfl ?_
 have hfn : fromP ((S.map decP).map PV.pt) = none := by
   cases hx : fromP ((S.map decP).map PV.pt) with
   | none => rfl
   | some f => rw [hx] at hfr; simp only [fromV] at hfr; omega
 exact .inl ⟨readS_no hgall hokP hfn, rfl, (hH.sb (List.nil_sublist _)).turned⟩
 refine Sk <| sw_seq ?_
 obtain ⟨f, hf⟩ : ∃ f, fromP ((S.map decP).map PV.pt) = some f := by
   cases hx : fromP ((S.map decP).map PV.pt) with
   | none => rw [hx] at hfr; simp only [fromV] at hfr; omega
   | some f => exact ⟨f, rfl⟩
 rw [hf] at hfr
 obtain rfl : fr = ((f : Nat) : Int) := hfr
 obtain ⟨b0, hb0, hbase⟩ := fromP_at hf
 rw [List.getElem?_map] at hb0
 obtain ⟨q9, hq9, rfl⟩ := Option.map_eq_some_iff.1 hb0
 have hfl := (List.getElem?_eq_some_iff.1 hq9).1
 rw [List.length_map] at hfl
 have hd0 : ((S.map decP).drop f)[0]? = some q9 := by rw [List.getElem?_drop]; exact hq9
 have hrl := readS_from hgall hokP hf
 have hdl : ((S.map decP).drop f).length = S.length - f := by rw [List.length_drop, List.length_map]
 have hrn2 := Nat.le_trans (recN_drop (S.map decP) f) hrs
 have hdk : ∀ q ∈ (S.map decP).drop f, ∀ r ∈ q.recs, RcOk r := fun q hq => dec_ok hgall q (List.mem_of_mem_drop hq)
 refine sw_sr <| Go2 2 6 (Ni f) 13 (Ni f) <| Dn <| sw_block ?_
 replace hH := (hH.sb (slk (slk sln))).n2
 refine Lp (γ := Nat × Cn × EQ × Option Addr × Nat × Pl) hH (fun (j, cx, es, Ae, ce, pk) => [(0, Pp g 0), (1, .slice Af0 S.length cf), (6, Ni f), (13, Ni (f + j))]) (fun (j, cx, es, Ae, ce, pk) w_ H_ => (j ≤ ((S.map decP).drop f).length) ∧ (doAll Cn.zero (recsN ((S.map decP).drop f) j) true = some cx) ∧ (CnR pk cx es (.slice Ae es.length ce)) ∧ H_ [.blk g 91 [Pp xb 0, Ni cx.term, Ni cx.vote, Ni cx.ix, Ni cx.ah, .slice Ae es.length ce, .int .i64 fi, .int .i64 bad], plO pk]) (fun (j, cx, es, Ae, ce, pk) => ((S.map decP).drop f).length - j) (0, Cn.zero, [], none, 0, pl) ?_ ?_
 · exact ⟨by omega, rfl, CnR.nil _ _ rfl, hH⟩
 clear hH
 rintro ⟨j, cx, es, Ae, ce, pk⟩ w52 ⟨hj, hdo, hL, hH⟩
 refine swk [(0, Pp g 0), (1, .slice Af0 S.length cf), (6, Ni f), (13, Ni (f + j))] <| sw_seq <| sw_sr <| Go2 2 99 (Ni (f + j)) 100 (.slice Af0 S.length cf) <| Gq rfl (Ln (e := 132) rfl) <| Go1 1 102 (.bool (decide (((f + j : Nat) : Int) < ((S.length : Nat) : Int)))) <| Dn <| If rfl (fun hc12 => ?_) (fun hc12 => ?_)
 refine Sk <| sw_seq <| sw_block ?_
 obtain ⟨q, hq⟩ : ∃ q, S[f + j]? = some q := ⟨_, List.getElem?_eq_getElem (by omega)⟩
 have hqok := hP q (List.mem_of_getElem? hq)
 have qrow := hqok.row
 obtain ⟨_, _, _, hfl8, hfl9⟩ := qrow.form
 simp only [maxLen] at hfl9
 have hqd2 : ((S.map decP).drop f)[j]? = some (decP q) := by rw [List.getElem?_drop]; exact dec_at hq
 refine sw_sr <| Go1 1 14 (.int .i64 0) <| Dn <| sw_block ?_
 replace hH := (hH.sb (slk (slk sln))).n2
 refine Lp (γ := Nat × Cn × EQ × Option Addr × Nat × Pl) hH (fun (k, cy, es2, Af, cf2, pm) => [(0, Pp g 0), (1, .slice Af0 S.length cf), (6, Ni f), (13, Ni (f + j)), (14, Ni k)]) (fun (k, cy, es2, Af, cf2, pm) w_ H_ => (k ≤ q.fr.length) ∧ (doAll Cn.zero (recsN ((S.map decP).drop f) j ++ (decP q).recs.take k) true = some cy) ∧ (CnR pm cy es2 (.slice Af es2.length cf2)) ∧ H_ [.blk g 91 [Pp xb 0, Ni cy.term, Ni cy.vote, Ni cy.ix, Ni cy.ah, .slice Af es2.length cf2, .int .i64 fi, .int .i64 bad], plO pm]) (fun (k, cy, es2, Af, cf2, pm) => q.fr.length - k) (0, cx, es, Ae, ce, pk) ?_ ?_
 · exact ⟨by omega, by rw [List.take_zero, List.append_nil]; exact hdo, hL, hH⟩
 clear hH
 rintro ⟨k, cy, es2, Af, cf2, pm⟩ w53 ⟨hk, hdo2, hL2, hH⟩
 refine swk [(0, Pp g 0), (1, .slice Af0 S.length cf), (6, Ni f), (13, Ni (f + j)), (14, Ni k)] <| sw_seq <| sw_sr ?_
 obtain ⟨p54, hi56, hp55⟩ := hF.idx (f + j) (by omega) (by decide)
 refine Go3 3 105 (Ni k) 106 (.slice Af0 S.length cf) 107 (Ni (f + j)) <| Gq rfl (Ix (e := 132) 4 rfl rfl hi56) <| Go1 1 109 (.pointer (some (p54.add 1))) <| Gq rfl (rd_load (by kernel_rfl) rfl (hH.zin _ _ (hp55 1 _ (by decide) (rowC_at sgC_len hq 1 (by decide) rfl)))) <| Gq rfl (Ln (e := 37) rfl) <| Go1 1 112 (.bool (decide ((k : Int) < ((q.fr.length : Nat) : Int)))) <| Dn <| If rfl (fun hc13 => ?_) (fun hc13 => ?_)
 refine Sk <| sw_seq <| sw_block ?_
 obtain ⟨⟨x, vx⟩, hx⟩ : ∃ x, q.fr[k]? = some x := ⟨_, List.getElem?_eq_getElem (by omega)⟩
 have kp : RB _ vx x := hqok.fr _ (List.mem_of_getElem? hx)
 obtain ⟨Ap, cp, rfl, _, _⟩ := kp.row.form
 have hrx := hgall q (List.mem_of_getElem? hq) _ (List.mem_of_getElem? hx)
 have hr := dec_rs hx
 have hemp := recsN_empty hd0 hbase hqd2 (show k ≤ (decP q).rs.length by rw [decP_len]; omega)
 have hcn := cnOk_len (cnOk_all cnOk_zero (recs_ok2 hdk hqd2 k) hdo2)
 have hel := doAll_len hdo2
 have hrl2 := recs_len hqd2 (show k ≤ (decP q).rs.length by rw [decP_len]; omega)
 have hl2 := hL2.len
 simp only [show Cn.zero.es.length = 0 from rfl, Nat.zero_add] at hel
 refine sw_sr ?_
 obtain ⟨p57, hi59, hp58⟩ := hF.idx (f + j) (by omega) (by decide)
 refine Go2 2 116 (.slice Af0 S.length cf) 117 (Ni (f + j)) <| Gq rfl (Ix (e := 132) 4 rfl rfl hi59) <| Go1 1 119 (.pointer (some (p57.add 1))) <| Gq rfl (rd_load (by kernel_rfl) rfl (hH.zin _ _ (hp58 1 _ (by decide) (rowC_at sgC_len hq 1 (by decide) rfl)))) ?_
 obtain ⟨p60, hi62, hp61⟩ := qrow.idx k (by omega) (by decide)
 refine Go1 1 121 (Ni k) <| Gq rfl (Ix (e := 37) 1 rfl rfl hi62) <| Gq rfl (rd_load (by kernel_rfl) rfl (hH.zin _ _ (hp61 0 _ (by decide) (rowC_at rqC_len hx 0 (by decide) rfl)))) <| gl_st (Sc rfl rfl (Record_ct _ x _ (kp.mono hH.zin)) ?_)
 rintro _ w71 ⟨v63, v64, ns65, d66, ok67, rfl, hr68, hF72⟩
 replace hH := hH.call hF72
 obtain ⟨A73, c74, rfl, hl75, hm76⟩ := hH.row_form 2 rfl
 obtain ⟨A77, c78, rfl, hl79, hm80⟩ := hH.row_form 3 rfl
 obtain ⟨hok, r, hrr, hns, hdd⟩ := hr68.resolve_left (fun h => hrx h.2)
 have hrd : rcD x = r := by unfold rcD; rw [hrr]; rfl
 have hrok := readR_ok hrr
 have hdl2 : r.d.length ≤ 65536 := rcOk_dl hrok
 refine Go2 7 15 (.slice A73 ns65.length c74) 16 (.slice A77 d66.length c78) <| Dn <| sw_sr <| Go4 7 128 (Pp g 0) 129 (.slice A73 ns65.length c74) 130 (.slice A77 d66.length c78) 134 (.bool (((f + j : Nat) : Int) == (f : Int))) <| Gi 134 rfl (fun hg14 => ?_) (fun hg14 => ?_)
 refine glo 3 [(0, Pp g 0), (1, .slice Af0 S.length cf), (6, Ni f), (13, Ni (f + j)), (14, Ni k), (128, Pp g 0), (129, .slice A73 ns65.length c74), (130, .slice A77 d66.length c78), (137, .bool ((k : Int) == (0 : Int)))] ?_
 replace hH : Hp w w71 _ _ ([_, _] ++ [_, _]) := hH
 refine gl_st (Sc rfl rfl (RDo19_ct g xb cy fi bad _ _ _ es2 pm r.k r.a r.b r.c r.d ((k : Int) == (0 : Int)) _ hH.mine hL2 (row_ns (zoff_row (mine := [rlO g xb cy (.slice Af es2.length cf2) fi bad, plO pm]) hH 0 rfl) hns) (rb_ns (zoff_row (mine := [rlO g xb cy (.slice Af es2.length cf2) fi bad, plO pm]) hH 1 rfl) hdd) (by rcases hrok.k with h | h <;> omega) (by omega) (by omega) hrok.a hrok.b hrok.c (by omega)) ?_)
 rintro _ w81 ⟨bb, o2, rfl, hor, hF82⟩
 replace hH := hH.turns hF82
 replace hH := hH.n3
 have hbe : ((k : Int) == (0 : Int)) = decide (j + k = 0) := by rw [Bool.eq_iff_iff]; simp only [beq_iff_eq, decide_eq_true_eq, Bool.false_eq_true, false_iff]; omega
 rw [show doC cy ⟨r.k, r.a, r.b, r.c, r.d⟩ ((k : Int) == (0 : Int)) = doC cy r (decide (j + k = 0)) from congrArg (doC cy r) hbe] at hor
 refine Go1 1 18 (.bool bb) <| Dn <| sw_sr <| Go1 2 140 (.bool (!bb)) <| Dn <| If rfl (fun hc15 => ?_) (fun hc15 => ?_)
 have hbb : bb = false := by simpa using hc15
 refine sw_sr <| Go2 2 4 (.int .i64 0) 5 (.bool false) <| Dn <| Rt2 rfl rfl rfl ?_
 have h1 := (hor.resolve_right (fun h => by obtain ⟨_, _, _, _, _, h2, _⟩ := h; rw [h2] at hbb; cases hbb)).1
 have hnn : doAll Cn.zero (((S.map decP).drop f).map PV.recs).flatten true = none := by
   obtain ⟨M, hM⟩ := recsN_split hqd2 (k + 1)
   rw [hM]
   refine doAll_none ?_ (by rw [recs_next hr]; simp)
   rw [recs_next hr, ← List.append_assoc, doAll_snoc, hdo2]
   simp only [Option.bind_some, Bool.true_and, hemp]; rw [hrd]; exact h1
 exact .inl ⟨by rw [hrl, hnn]; rfl, rfl, (hH.sb (List.nil_sublist _)).turned⟩
 have hbb : bb = true := by simpa using hc15
 obtain ⟨c3, es3, ve3, pl3, h1, _, h4, ho2⟩ := hor.resolve_left (fun h => by rw [h.2] at hbb; cases hbb)
 replace hH := hH.fr3
 obtain ⟨A3, ce3, rfl, _, _⟩ := h4.row.form
 replace hH := do_back ho2 hH
 replace hH : Hp w w81 _ _ [.blk g 91 [Pp xb 0, Ni c3.term, Ni c3.vote, Ni c3.ix, Ni c3.ah, .slice A3 es3.length ce3, .int .i64 fi, .int .i64 bad], plO pl3, .row (.slice A73 ns65.length c74) 3 1 ns65.length (iv ns65), .row (.slice A77 d66.length c78) 5 1 d66.length (bv d66)] := hH
 refine sw_skip <| bkN <| sw_next <| sw_region <| Gw0 2 114 ((k : Int) + 1) ((k + 1 : Nat) : Int) <| Go1 1 14 (Ni (k + 1)) <| Dd <| rnd_end (g := (k, cy, es2, Af, cf2, pm)) (k + 1, c3, es3, A3, ce3, pl3) (by kernel_rfl) ?_ ?_
 replace hH := (hH.sb (slk (slk sln))).n2
 · exact ⟨by omega, by rw [recs_next hr, ← List.append_assoc, doAll_snoc, hdo2]; simp only [Option.bind_some, Bool.true_and, hemp]; rw [hrd]; exact h1, h4, hH⟩
 · show q.fr.length - (k + 1) < q.fr.length - k; omega
 refine glo 3 [(0, Pp g 0), (1, .slice Af0 S.length cf), (6, Ni f), (13, Ni (f + j)), (14, Ni k), (128, Pp g 0), (129, .slice A73 ns65.length c74), (130, .slice A77 d66.length c78), (137, .bool false)] ?_
 replace hH : Hp w w71 _ _ ([_, _] ++ [_, _]) := hH
 refine gl_st (Sc rfl rfl (RDo19_ct g xb cy fi bad _ _ _ es2 pm r.k r.a r.b r.c r.d (false) _ hH.mine hL2 (row_ns (zoff_row (mine := [rlO g xb cy (.slice Af es2.length cf2) fi bad, plO pm]) hH 0 rfl) hns) (rb_ns (zoff_row (mine := [rlO g xb cy (.slice Af es2.length cf2) fi bad, plO pm]) hH 1 rfl) hdd) (by rcases hrok.k with h | h <;> omega) (by omega) (by omega) hrok.a hrok.b hrok.c (by omega)) ?_)
 rintro _ w83 ⟨bb, o2, rfl, hor, hF84⟩
 replace hH := hH.turns hF84
 replace hH := hH.n3
 have hbe : (false) = decide (j + k = 0) := by rw [Bool.eq_iff_iff]; simp only [beq_iff_eq, decide_eq_true_eq, Bool.false_eq_true, false_iff]; omega
 rw [show doC cy ⟨r.k, r.a, r.b, r.c, r.d⟩ (false) = doC cy r (decide (j + k = 0)) from congrArg (doC cy r) hbe] at hor
 refine Go1 1 18 (.bool bb) <| Dn <| sw_sr <| Go1 2 140 (.bool (!bb)) <| Dn <| If rfl (fun hc16 => ?_) (fun hc16 => ?_)
 have hbb : bb = false := by simpa using hc16
 refine sw_sr <| Go2 2 4 (.int .i64 0) 5 (.bool false) <| Dn <| Rt2 rfl rfl rfl ?_
 have h1 := (hor.resolve_right (fun h => by obtain ⟨_, _, _, _, _, h2, _⟩ := h; rw [h2] at hbb; cases hbb)).1
 have hnn : doAll Cn.zero (((S.map decP).drop f).map PV.recs).flatten true = none := by
   obtain ⟨M, hM⟩ := recsN_split hqd2 (k + 1)
   rw [hM]
   refine doAll_none ?_ (by rw [recs_next hr]; simp)
   rw [recs_next hr, ← List.append_assoc, doAll_snoc, hdo2]
   simp only [Option.bind_some, Bool.true_and, hemp]; rw [hrd]; exact h1
 exact .inl ⟨by rw [hrl, hnn]; rfl, rfl, (hH.sb (List.nil_sublist _)).turned⟩
 have hbb : bb = true := by simpa using hc16
 obtain ⟨c3, es3, ve3, pl3, h1, _, h4, ho2⟩ := hor.resolve_left (fun h => by rw [h.2] at hbb; cases hbb)
 replace hH := hH.fr3
 obtain ⟨A3, ce3, rfl, _, _⟩ := h4.row.form
 replace hH := do_back ho2 hH
 replace hH : Hp w w83 _ _ [.blk g 91 [Pp xb 0, Ni c3.term, Ni c3.vote, Ni c3.ix, Ni c3.ah, .slice A3 es3.length ce3, .int .i64 fi, .int .i64 bad], plO pl3, .row (.slice A73 ns65.length c74) 3 1 ns65.length (iv ns65), .row (.slice A77 d66.length c78) 5 1 d66.length (bv d66)] := hH
 refine sw_skip <| bkN <| sw_next <| sw_region <| Gw0 2 114 ((k : Int) + 1) ((k + 1 : Nat) : Int) <| Go1 1 14 (Ni (k + 1)) <| Dd <| rnd_end (g := (k, cy, es2, Af, cf2, pm)) (k + 1, c3, es3, A3, ce3, pl3) (by kernel_rfl) ?_ ?_
 replace hH := (hH.sb (slk (slk sln))).n2
 · exact ⟨by omega, by rw [recs_next hr, ← List.append_assoc, doAll_snoc, hdo2]; simp only [Option.bind_some, Bool.true_and, hemp]; rw [hrd]; exact h1, h4, hH⟩
 · show q.fr.length - (k + 1) < q.fr.length - k; omega
 refine sw_exit <| thX <| thX <| bkH <| bkN <| sw_next <| sw_region <| Gw0 2 104 (((f + j : Nat) : Int) + 1) (((f + j) + 1 : Nat) : Int) <| Go1 1 13 (Ni ((f + j) + 1)) <| Dd <| rnd_end (g := (j, cx, es, Ae, ce, pk)) (j + 1, cy, es2, Af, cf2, pm) (by kernel_rfl) ?_ ?_
 replace hH := (hH.sb (slk (slk sln))).n2
 · exact ⟨by omega, by rw [recsN_next hqd2]; have h8 := hdo2; rwa [List.take_of_length_le (by unfold PV.recs; rw [List.length_map, decP_len]; omega)] at h8, hL2, hH⟩
 · show ((S.map decP).drop f).length - (j + 1) < ((S.map decP).drop f).length - j; omega
 refine sw_exit <| thX <| thX <| bkH <| sw_next <| sw_sr <| Go2 3 4 (Ni f) 5 (.bool true) <| Dn <| Rt2 rfl rfl rfl ?_
 replace hH := (hH.sb (slk (slk sln))).n2
 have hje : ((S.map decP).drop f).length ≤ j := by omega
 rw [recsN_all _ hje] at hdo
 exact .inr ⟨f, cx, es, _, pk, by rw [hrl, hdo]; rfl, rfl, hL, hH.turned⟩
end Go.Proofs.YtajapgjemefoiaaGreatDoor
/- Layer 19, the document's own answer: what opening leaves; its cases, by what the document reads in its files. Plain mathematics. -/
set_option linter.unusedVariables false
namespace Go.Proofs.YtajapgjemefoiaaGreatDoor
open Go.SW Go.RowKit
def ROpenPost (xb : Nat) (rv : Value) (D : Dsk) (part : Int) (L : FV) (w : World) (v : Value) (w' : World) : Prop :=
  ∃ rv' L', L'.map (·.1) = (openL D).1.fs ∧ (((openL D).2.1 = none ∧ v = .tuple #[.pointer none, .int .i64 (((openL D).2.2 : Nat) : Int)] ∧ Turn w w' (ownR xb rv D part L) (ownR xb rv' (openL D).1 part L')) ∨
    (∃ g l es ve pl, (openL D).2.1 = some l ∧ (openL D).2.2 = 0 ∧ v = .tuple #[.pointer (some ⟨g, 0, none⟩), .int .i64 0] ∧ CnR pl l.c es ve ∧ Turn w w' (ownR xb rv D part L) ([rlO g xb l.c ve ((l.file : Nat) : Int) 0, plO pl] ++ ownR xb rv' (openL D).1 part L')))
theorem ropen_no {xb : Nat} {rv rv' : Value} {D D2 : Dsk} {part : Int} {L L' : FV} {w w' : World} {e : Nat} (h : openL D = (D2, none, e)) (hF : L'.map (·.1) = D2.fs) (hT : Turn w w' (ownR xb rv D part L) (ownR xb rv' D2 part L')) : ROpenPost xb rv D part L w (.tuple #[.pointer none, .int .i64 ((e : Nat) : Int)]) w' := by
  unfold ROpenPost
  rw [h]
  exact ⟨rv', L', hF, .inl ⟨rfl, rfl, hT⟩⟩
theorem ropen_yes {g xb : Nat} {rv rv' ve : Value} {D D2 : Dsk} {part : Int} {L L' : FV} {w w' : World} {l : Lg} {es : EQ} {pl : Pl} (h : openL D = (D2, some l, 0)) (hF : L'.map (·.1) = D2.fs) (hL : CnR pl l.c es ve) (hT : Turn w w' (ownR xb rv D part L) ([rlO g xb l.c ve ((l.file : Nat) : Int) 0, plO pl] ++ ownR xb rv' D2 part L')) : ROpenPost xb rv D part L w (.tuple #[.pointer (some ⟨g, 0, none⟩), .int .i64 0]) w' := by
  unfold ROpenPost
  rw [h]
  exact ⟨rv', L', hF, .inr ⟨g, l, es, ve, pl, rfl, rfl, rfl, hL, hT⟩⟩
section
variable {D : Dsk} {S : List SV} (hS : Srt D.fs) (h : S.map SV.sg = segsF D.fs []) (hoff : ¬ D.off = true)
include hS h hoff
theorem ropen_new (h0 : S.length = 0) : openL D = if (doD D 2 (nameF 1) (recsB (allR Cn.zero)) 0).2 ≠ 0 then ((doD D 2 (nameF 1) (recsB (allR Cn.zero)) 0).1, none, (doD D 2 (nameF 1) (recsB (allR Cn.zero)) 0).2) else ((doD D 2 (nameF 1) (recsB (allR Cn.zero)) 0).1, some ⟨Cn.zero, 1, (recsB (allR Cn.zero)).length, 0⟩, 0) := by
  refine openL_new hoff ?_
  rw [parts_segs hS, ← h, List.eq_nil_of_length_eq_zero h0]; rfl
theorem ropen_bad (h0 : S.length ≠ 0) (hr : readS (S.map SV.sg) = none) : openL D = (D, none, 90) := by
  have hp := parts_segs hS
  rw [← h] at hp
  cases hd : decAll (S.map SV.sg) with
  | none =>
    rw [hd] at hp
    cases hq : partsF D.fs with
    | none => exact openL_bad hoff hq
    | some ps => rw [hq] at hp; cases hp
  | some ps =>
    rw [hd] at hp
    have hk := decAll_k hd
    have hl := congrArg List.length hk
    simp only [List.length_map] at hl
    refine openL_none hoff hp (by omega) ?_
    unfold readS at hr
    rw [hd] at hr; exact hr
theorem ropen_some (h0 : S.length ≠ 0) {i : Nat} {c : Cn} (hr : readS (S.map SV.sg) = some (i, c)) : openL D = openT D ((S.map decP).map PV.pt) i c := by
  have hp := parts_segs hS
  rw [← h] at hp
  rcases all_or S with ha | ha
  · rw [decAll_all ha] at hp
    refine openL_some hoff hp (by rw [List.length_map, List.length_map]; exact h0) ?_
    rw [← readS_all ha]; exact hr
  · rw [ha] at hr; cases hr
end
end Go.Proofs.YtajapgjemefoiaaGreatDoor
/- Layer 19, the document's own answer (muntinref19): a log is opened: what it answers. -/
set_option maxRecDepth 100000
set_option maxHeartbeats 4000000
set_option linter.unusedVariables false
set_option linter.unusedSimpArgs false
namespace Go.Proofs.YtajapgjemefoiaaGreatDoor
open Go.RowKit Go.SW
theorem rem_nextS {D : Dsk} {S : List SV} {i j : Nat} {q : SV} (h : S[j]? = some q) (hj : j < i) : remAll D (((((S.map decP).map PV.pt).take i).drop j).map (·.k)) = if (doD D 4 (nameF q.k) [] 0).2 ≠ 0 then doD D 4 (nameF q.k) [] 0 else remAll (doD D 4 (nameF q.k) [] 0).1 (((((S.map decP).map PV.pt).take i).drop (j + 1)).map (·.k)) := by
  have e : (decP q).k = q.k := rfl
  have h9 := rem_next (D := D) (i := i) (dec_at h) hj
  rw [e] at h9
  exact h9
theorem readS_lt {S : List SV} {i : Nat} {c : Cn} (h : readS (S.map SV.sg) = some (i, c)) : i < S.length := by
  unfold readS at h
  cases hd : decAll (S.map SV.sg) with
  | none => rw [hd] at h; cases h
  | some ps =>
    rw [hd] at h
    have h1 := readL_lt h
    have h2 := congrArg List.length (decAll_k hd)
    simp only [List.length_map] at h2
    omega
theorem zero_recs : recsB (allR Cn.zero) = recB ⟨3, 0, 0, 0, []⟩ ++ recB ⟨1, 0, 0, 0, []⟩ := by
  show recB (baR 0 0) ++ (recB (stR 0 0) ++ []) = _
  rw [List.append_nil]; rfl
theorem zero_rl : (recB ⟨3, 0, 0, 0, []⟩).length ≤ 1073741824 ∧ (recB ⟨1, 0, 0, 0, []⟩).length ≤ 1073741824 := by
  have h := zero_len
  rw [zero_recs, List.length_append] at h
  omega
theorem segsF_len : ∀ (F : List Fil) (l : List Sg), (segsF F l).length ≤ l.length + F.length
  | [], l => Nat.le_refl _
  | f :: F, l => by
    have h := segsF_len F (if numF f.name = 0 then l else insSg l (sgF f))
    have e : segsF (f :: F) l = segsF F (if numF f.name = 0 then l else insSg l (sgF f)) := rfl
    have h2 : (if numF f.name = 0 then l else insSg l (sgF f)).length ≤ l.length + 1 := by
      split
      · omega
      · unfold insSg
        have := congrArg List.length (List.take_append_drop (insK9 l (sgF f).k) l)
        simp only [List.length_append, List.length_cons] at this ⊢
        omega
    rw [e, List.length_cons]
    omega
theorem segs_len {D : Dsk} {L : FV} {S : List SV} (h : S.map SV.sg = segsF D.fs []) (hF : L.map (·.1) = D.fs) : S.length ≤ L.length := by
  have h1 := congrArg List.length h
  have h2 := congrArg List.length hF
  have h3 := segsF_len D.fs []
  simp only [List.length_map, List.length_nil] at h1 h2 h3
  omega
theorem lastS_at {S : List SV} {q : SV} (h : S[S.length - 1]? = some q) : lastP ((S.map decP).map PV.pt) = (decP q).pt := lastP_at (by rw [List.length_map]; exact dec_at h)

def RReadPost (g xb : Nat) (fi bad : Int) (S : List SV) (pl : Pl) (w : World) (v : Value) (w' : World) : Prop :=
  ∃ i ok o2, v = .tuple #[.int .i64 ((i : Nat) : Int), .bool ok] ∧ ((readS (S.map SV.sg) = none ∧ ok = false) ∨ (∃ c2 es2 ve2 pl2, readS (S.map SV.sg) = some (i, c2) ∧ ok = true ∧ CnR pl2 c2 es2 ve2 ∧ o2 = [rlO g xb c2 ve2 fi bad, plO pl2])) ∧
    Turn w w' [rlO g xb Cn.zero (.slice none 0 0) fi bad, plO pl] [.grp o2]
theorem RReadP_ct (g xb : Nat) (fi bad : Int) (vf : Value) (S : List SV) (pl : Pl) (Zp : Zone) (w : World) (hM : Mine w [rlO g xb Cn.zero (.slice none 0 0) fi bad, plO pl]) (hZ : Zp.le (off w (blksOf [rlO g xb Cn.zero (.slice none 0 0) fi bad, plO pl]))) (hF : Row (off w (blksOf [rlO g xb Cn.zero (.slice none 0 0) fi bad, plO pl])) vf 4 S.length (rowC sgC S)) (hP0 : ∀ q ∈ S, SvOk Zp q) (hn : S.length ≤ 1000) (hrs : recN (S.map decP) ≤ 1000000) :
    Fun Tryz.prog 64 [.pointer (some ⟨g, 0, none⟩), vf] w fun v w' => RReadPost g xb fi bad S pl w v w' := by
  refine (RRead19_ct g xb fi bad vf S pl Zp w hM hZ hF hP0 hn hrs).mono ?_
  rintro v w' (⟨h1, rfl, h2⟩ | ⟨i, c2, es2, ve2, pl2, h1, rfl, h2, h3⟩)
  · exact ⟨0, false, [], rfl, .inl ⟨h1, rfl⟩, Hp.close (l := []) (r := []) h2⟩
  · exact ⟨i, true, _, rfl, .inr ⟨c2, es2, ve2, pl2, h1, rfl, h2, rfl⟩, Hp.close (r := []) (by rw [List.append_nil]; exact h3)⟩

theorem ROpen19_ct (xb : Nat) (rv : Value) (D : Dsk) (part : Int) (L : FV) (M : Nat) (w : World) (hM : Mine w [.grp (rdkO xb rv D.off (actsI D.ar) part L)]) (hF : L.map (·.1) = D.fs) (hA : ArOk D.ar) (hP : PartOk D.ar part) (hG : Good D.fs M) (hMM : M ≤ 4194304) (hN : L.length ≤ 1000) (hrs : ∀ S : List SV, S.map SV.sg = segsF D.fs [] → recN (S.map decP) ≤ 1000000) :
    Fun Tryz.prog 35 [.pointer (some ⟨xb, 0, none⟩)] w fun v w' => ROpenPost xb rv D part L w v w' := by
 have hlen : ∀ q ∈ L, q.1.b.length ≤ 4294967296 := fun q hq => by have := hG.short q.1 (by rw [← hF]; exact List.mem_map.2 ⟨q, hq, rfl⟩); omega
 have hnm : ∀ q ∈ L, q.1.name.length ≤ 32 := fun q hq => hG.nm q.1 (by rw [← hF]; exact List.mem_map.2 ⟨q, hq, rfl⟩)
 refine fun_of_sw Tryz.func35 rfl 92 rfl rfl ?_
 have hH := Hp.start_mine hM
 refine sw_sr <| Go0 2 <| Dn <| sw_seq <| sw_sr <| Go1 3 16 (Pp xb 1) <| Gq rfl (rd_load (by kernel_rfl) rfl (rdk_c1 hH 0 rfl)) <| Dn <| If rfl (fun hc1 => ?_) (fun hc1 => ?_)
 have hoff := hc1
 refine sw_sr <| Go2 2 2 (.pointer none) 3 (.int .i64 80) <| Dn <| Rt2 rfl rfl rfl ?_
 replace hH := (hH.sb (slk sln)).n1
 exact ropen_no (openL_down hoff) hF (hH.turned)
 have hoff : ¬ D.off = true := by rw [hc1]; simp
 refine Sk <| sw_sr <| Go1 2 19 (.agg #[Pp xb 0, .int .i64 0, .int .i64 0, .int .i64 0, .int .i64 0, .slice none 0 0, .int .i64 1, .int .i64 0]) <| gl_st (Bx [Pp xb 0, .int .i64 0, .int .i64 0, .int .i64 0, .int .i64 0, .slice none 0 0, .int .i64 1, .int .i64 0] rfl hH ?_)
 clear hH; intro b1 w2 hH
 refine Go1 1 4 (Pp b1 0) <| Dn <| sw_sr <| Go1 1 21 (Pp xb 0) <| gl_st (Sc rfl rfl (Segs_ct xb rv L _ (rdk_c0 hH 0 rfl) (rdk_rw hH 0 rfl) (rdk_rbs hH 0 rfl) hlen hnm (by omega)) ?_)
 rintro _ w4 ⟨v3, S, pf, rfl, ⟨hS1, hS2⟩, hF5⟩
 replace hH := hH.call hF5
 rw [hF] at hS1
 have hrn := hrs S hS1
 have hSl := segs_len hS1 hF
 obtain ⟨A6, c7, rfl, hl8, hm9⟩ := hH.row_form 2 rfl
 refine Go1 1 5 (.slice A6 S.length c7) <| Dn <| sw_seq <| sw_sr <| Go1 1 23 (.slice A6 S.length c7) <| Gq rfl (Ln (e := 132) rfl) <| Go1 1 25 (.bool (((S.length : Nat) : Int) == (0 : Int))) <| Dn <| If rfl (fun hc2 => ?_) (fun hc2 => ?_)
 have hnew := hc2
 have hzr := zero_rl
 refine sw_sr <| Go1 1 26 (Pp xb 0) <| gl_st (Sc rfl rfl (RName19_ct 1 _ (by first | omega | (simp <;> omega))) ?_)
 rintro _ w10 ⟨rfl, hF11⟩
 replace hH := hH.call hF11
 refine gl_st (Sc rfl rfl (RBase19_ct 0 0 _ (by omega) (by omega)) ?_)
 rintro _ w14 ⟨v12, rfl, hF15⟩
 replace hH := hH.call hF15
 obtain ⟨A16, c17, rfl, hl18, hm19⟩ := hH.row_form 4 rfl
 refine gl_st (Sc rfl rfl (RState19_ct 0 0 _ (by omega) (by omega)) ?_)
 rintro _ w22 ⟨v20, rfl, hF23⟩
 replace hH := hH.call hF23
 obtain ⟨A24, c25, rfl, hl26, hm27⟩ := hH.row_form 5 rfl
 refine gl_st (Apd (e := 5) (.int .u8 0) 1 1 4 rfl hH rfl rfl rfl (hH.row_reads 5 rfl) (bv_one _) (by unfold maxLen; omega) (by omega) ?_)
 clear hH; intro v28 w29 hH
 replace hH := hH.row_eq 4 (l' := ((recB ⟨3, 0, 0, 0, []⟩) ++ (recB ⟨1, 0, 0, 0, []⟩)).length) (xs' := bv ((recB ⟨3, 0, 0, 0, []⟩) ++ (recB ⟨1, 0, 0, 0, []⟩))) rfl (by simp only [List.length_append, List.length_cons, List.length_nil] <;> omega) ((bv_append _ _).symm)
 obtain ⟨A30, c31, rfl, hl32, hm33⟩ := hH.row_form 4 rfl
 obtain ⟨R34, hr35⟩ : ∃ R, doD D 2 (nameF 1) (recsB (allR Cn.zero)) 0 = R := ⟨_, rfl⟩
 replace hH : Hp w w29 _ _ ([_] ++ [_, _, _, _, _]) := hH
 refine gl_st (Sc rfl rfl (by have h9 := RDo2_ct xb _ D part L (nameF 1) _ (recsB (allR Cn.zero)) 0 M _ hH.mine hF hA hP hG (by omega) (by omega) (by have := nameF_short 1 (by omega); omega) (by rw [zero_recs]; exact zoff_row (mine := [.grp (rdkO xb rv D.off (actsI D.ar) part L)]) hH 3 rfl) (by have := zero_len; omega); rw [hr35] at h9; exact h9) ?_)
 rintro _ w39 ⟨rv36, L37, rfl, hF38, hF40⟩
 replace hH := hH.turns hF40
 replace hH := hH.n6
 have hAR34 : ArOk R34.1.ar := by rw [← hr35]; exact arOk_do hA _ _ _ _
 have hPR34 : PartOk R34.1.ar part := by rw [← hr35]; exact part_do hP _ _ _ _
 refine Go1 1 6 (Ni R34.2) <| Dn <| sw_seq <| sw_sr <| Go1 2 33 (.bool (((R34.2 : Nat) : Int) != (0 : Int))) <| Dn <| If rfl (fun hc3 => ?_) (fun hc3 => ?_)
 have hbe := hc3
 refine sw_sr <| Go2 3 2 (.pointer none) 3 (Ni R34.2) <| Dn <| Rt2 rfl rfl rfl ?_
 replace hH := hH.fr6
 replace hH := (hH.sb (slk sln)).n1
 have hop := ropen_new hG.srt hS1 hoff (by omega)
 rw [hr35, if_pos (by simpa using hbe)] at hop
 exact ropen_no hop hF38 (hH.turned)
 have hbe := hc3
 refine Sk <| sw_sr <| Go2 3 2 (Pp b1 0) 3 (.int .i64 0) <| Dn <| Rt2 rfl rfl rfl ?_
 replace hH := hH.pool
 replace hH := hH.fr6.fr7.fr3
 replace hH := (hH.sb (slk (slk (slk sln)))).n3
 have hop := ropen_new hG.srt hS1 hoff (by omega)
 rw [hr35, if_neg (by simpa using hbe)] at hop
 exact ropen_yes hop hF38 (CnR.nil [] _ rfl) (hH.turned)
 have hne : S.length ≠ 0 := by omega
 refine Sk <| sw_sr ?_
 replace hH := hH.pool
 refine Go2 2 37 (Pp b1 0) 38 (.slice A6 S.length c7) ?_
 replace hH : Hp w w4 _ _ ([_, _] ++ [_, _, _]) := hH.fr5.fr3
 refine gl_st (Sc rfl rfl (RReadP_ct b1 xb 1 0 _ S [] (pz pf) _ hH.mine (pz_off hH 2 rfl) (zoff_row (mine := [.blk b1 91 [Pp xb 0, .int .i64 0, .int .i64 0, .int .i64 0, .int .i64 0, .slice none 0 0, .int .i64 1, .int .i64 0], plO []]) hH 1 rfl) hS2 (by omega) hrn) ?_)
 rintro _ w41 ⟨i, ok, o2, rfl, hor, hF42⟩
 replace hH := hH.turns hF42
 replace hH := hH.n4
 refine Go2 5 7 (Ni i) 8 (.bool ok) <| Dn <| sw_seq <| sw_sr <| Go1 2 43 (.bool (!ok)) <| Dn <| If rfl (fun hc4 => ?_) (fun hc4 => ?_)
 have hok0 := hc4
 refine sw_sr <| Go2 2 2 (.pointer none) 3 (.int .i64 90) <| Dn <| Rt2 rfl rfl rfl ?_
 replace hH := (hH.sb (slk sln)).n1
 exact ropen_no (ropen_bad hG.srt hS1 hoff hne (hor.resolve_right (fun h => by obtain ⟨_, _, _, _, _, h2, _⟩ := h; rw [h2] at hok0; cases hok0)).1) hF (hH.turned)
 have hok0 := hc4
 obtain ⟨c2, es2, ve2, pl2, hrd, hok1, hL2, ho2⟩ := hor.resolve_left (fun h => by rw [h.2] at hok0; cases hok0)
 obtain ⟨Ae, ce, rfl, _, _⟩ := hL2.row.form
 replace hH := hH.fr4
 replace hH := do_back ho2 hH
 replace hH : Hp w w41 _ _ [.blk b1 91 [Pp xb 0, Ni c2.term, Ni c2.vote, Ni c2.ix, Ni c2.ah, .slice Ae es2.length ce, .int .i64 1, .int .i64 0], plO pl2, .grp (rdkO xb rv D.off (actsI D.ar) part L), .row (.slice A6 S.length c7) 132 4 S.length (rowC sgC S), plO pf] := hH
 have hil := readS_lt hrd
 have hop := ropen_some hG.srt hS1 hoff hne hrd
 obtain ⟨RA, hRA⟩ : ∃ R, remAll D ((((S.map decP).map PV.pt).take i).map (·.k)) = R := ⟨_, rfl⟩
 refine Sk <| sw_seq <| sw_sr <| Go1 1 9 (.int .i64 0) <| Dn <| sw_block ?_
 replace hH := hH.fr2.fr2.fr4.fr4
 replace hH := (hH.sb (slk (slk (slk (slk sln))))).n4
 refine Lp (γ := Nat × Dsk × Value × FV) hH (fun (j, Dj, rvj, Lj) => [(0, Pp xb 0), (4, Pp b1 0), (5, .slice A6 S.length c7), (7, Ni i), (9, Ni j)]) (fun (j, Dj, rvj, Lj) w_ H_ => (j ≤ i) ∧ (Lj.map (·.1) = Dj.fs) ∧ (ArOk Dj.ar) ∧ (PartOk Dj.ar part) ∧ (Good Dj.fs M) ∧ (Lj.length ≤ L.length + j) ∧ (remAll Dj (((((S.map decP).map PV.pt).take i).drop j).map (·.k)) = RA) ∧ H_ [.grp (rdkO xb rvj Dj.off (actsI Dj.ar) part Lj), .row (.slice A6 S.length c7) 132 4 S.length (rowC sgC S), .blk b1 91 [Pp xb 0, Ni c2.term, Ni c2.vote, Ni c2.ix, Ni c2.ah, .slice Ae es2.length ce, .int .i64 1, .int .i64 0], plO pl2]) (fun (j, Dj, rvj, Lj) => i - j) (0, D, rv, L) ?_ ?_
 · exact ⟨by omega, hF, hA, hP, hG, Nat.le_refl _, by rw [List.drop_zero]; exact hRA, hH⟩
 clear hH
 rintro ⟨j, Dj, rvj, Lj⟩ w43 ⟨hj, hFj, hAj, hPj, hGj, hNj, hrem, hH⟩
 refine swk [(0, Pp xb 0), (4, Pp b1 0), (5, .slice A6 S.length c7), (7, Ni i), (9, Ni j)] <| sw_seq <| sw_sr <| Go1 3 46 (.bool (decide ((j : Int) < (i : Int)))) <| Dn <| If rfl (fun hc5 => ?_) (fun hc5 => ?_)
 refine Sk <| sw_seq <| sw_block ?_
 obtain ⟨q, hq⟩ : ∃ q, S[j]? = some q := ⟨_, List.getElem?_eq_getElem (by omega)⟩
 have hqk := (hS2 q (List.mem_of_getElem? hq)).k
 refine sw_sr ?_
 obtain ⟨b45, hb44, hi46⟩ := hH.row_idx 1 rfl j (by omega)
 refine Go3 3 49 (Pp xb 0) 50 (.slice A6 S.length c7) 51 (Ni j) <| Gq rfl (Ix (e := 132) 4 rfl rfl hi46) <| Go1 1 53 (Pp b45 (j * 4)) <| Gq rfl (Lo 1 hH rfl rfl hb44 (rowC_at sgC_len hq 0 (by decide) rfl)) <| gl_st (Sc rfl rfl (RName19_ct q.k _ (by first | omega | (simp <;> omega))) ?_)
 rintro _ w47 ⟨rfl, hF48⟩
 replace hH := hH.call hF48
 obtain ⟨R49, hr50⟩ : ∃ R, doD Dj 4 (nameF q.k) [] 0 = R := ⟨_, rfl⟩
 replace hH : Hp w w47 _ _ ([_] ++ [_, _, _]) := hH
 refine gl_st (Sc rfl rfl (by have h9 := RDo4_ct xb _ Dj part Lj (nameF q.k) _ [] 0 M _ hH.mine hFj hAj hPj hGj (by omega) (by omega) (by have := nameF_short q.k (by omega); omega) (RB.nil _) (by simp); rw [hr50] at h9; exact h9) ?_)
 rintro _ w54 ⟨rv51, L52, rfl, hF53, hF55⟩
 replace hH := hH.turns hF55
 replace hH := hH.n4
 have hAR49 : ArOk R49.1.ar := by rw [← hr50]; exact arOk_do hAj _ _ _ _
 have hPR49 : PartOk R49.1.ar part := by rw [← hr50]; exact part_do hPj _ _ _ _
 have hGR49 : Good R49.1.fs M := by rw [← hr50]; exact (good_doD hGj _ _ _ _).mono (by simp)
 have hNR49 : L52.length ≤ Lj.length + 1 := by have h1 := congrArg List.length hF53; have h2 := congrArg List.length hFj; have h3 := len_doD Dj 4 (nameF q.k) [] 0; rw [hr50] at h3; rw [List.length_map] at h1 h2; omega
 refine Go1 1 10 (Ni R49.2) <| Dn <| sw_sr <| Go1 2 58 (.bool (((R49.2 : Nat) : Int) != (0 : Int))) <| Dn <| If rfl (fun hc6 => ?_) (fun hc6 => ?_)
 have hz9 := hc6
 refine sw_sr <| Go2 3 2 (.pointer none) 3 (Ni R49.2) <| Dn <| Rt2 rfl rfl rfl ?_
 replace hH := hH.fr4
 replace hH := (hH.sb (slk sln)).n1
 rw [rem_nextS hq (by omega), if_pos (by rw [hr50]; simpa using hz9), hr50] at hrem
 subst hrem
 have hop2 := hop.trans (openT_rem hRA (by simpa using hz9))
 exact ropen_no hop2 hF53 (hH.turned)
 have hz9 := hc6
 refine sw_skip <| bkN <| sw_next <| sw_region <| Gw0 2 48 ((j : Int) + 1) ((j + 1 : Nat) : Int) <| Go1 1 9 (Ni (j + 1)) <| Dd <| rnd_end (g := (j, Dj, rvj, Lj)) (j + 1, R49.1, rv51, L52) (by kernel_rfl) ?_ ?_
 replace hH := hH.fr3.fr3.fr3.fr4
 replace hH := (hH.sb (slk (slk (slk (slk sln))))).n4
 · exact ⟨by omega, hF53, hAR49, hPR49, hGR49, by omega, by rw [rem_nextS hq (by omega), if_neg (by rw [hr50]; simpa using hz9), hr50] at hrem; exact hrem, hH⟩
 · show i - (j + 1) < i - j; omega
 refine sw_exit <| thX <| thX <| bkH <| sw_next ?_
 obtain ⟨q, hq⟩ : ∃ q, S[S.length - 1]? = some q := ⟨_, List.getElem?_eq_getElem (by omega)⟩
 have hqo := hS2 q (List.mem_of_getElem? hq)
 have hqk := hqo.k
 have hqw := hqo.whole
 have hlp := lastS_at hq
 have hje : j = i := by omega
 subst hje
 rw [List.drop_of_length_le (by rw [List.length_take, List.length_map, List.length_map]; omega)] at hrem
 subst hrem
 have hRA2 : remAll D ((((S.map decP).map PV.pt).take j).map (·.k)) = (Dj, 0) := hRA
 refine sw_sr <| Go2 2 60 (.slice A6 S.length c7) 61 (.slice A6 S.length c7) <| Gq rfl (Ln (e := 132) rfl) <| Gw0 1 63 (((S.length : Nat) : Int) - 1) ((S.length - 1 : Nat) : Int) ?_
 obtain ⟨b57, hb56, hi58⟩ := hH.row_idx 1 rfl (S.length - 1) (by omega)
 refine Gq rfl (Ix (e := 132) 4 rfl rfl hi58) <| Gq rfl (rd_loadOA (q := 4) 1 (by kernel_rfl) hH rfl rfl hb56 (by kernel_rfl) [Ni q.k, .slice q.A q.fr.length q.cap, Ni q.whole, .bool q.more] rfl (rowC_allO sgC_len hq _ rfl)) <| gl_st (Alc [.int .i64 0, .slice none 0 0, .int .i64 0, .bool false] rfl hH ?_)
 clear hH; intro b59 w60 hH
 refine gl_st (Ka 4 [Ni q.k, .slice q.A q.fr.length q.cap, Ni q.whole, .bool q.more] [Ni q.k, .slice q.A q.fr.length q.cap, Ni q.whole, .bool q.more] rfl hH rfl rfl ?_)
 clear hH; intro w61 hH
 refine Dn <| sw_sr <| Go2 2 66 (Pp b1 0) 67 (Pp b59 0) <| Gq rfl (Lk 4 hH rfl rfl rfl) <| Go1 2 70 (Pp b1 6) <| gl_st (Ks 2 (Ni q.k) rfl hH rfl rfl ?_)
 clear hH; intro w62 hH
 refine Dn <| sw_seq <| sw_sr <| Go1 1 71 (Pp b59 3) <| Gq rfl (Lk 4 hH rfl rfl rfl) <| Dn <| If rfl (fun hc7 => ?_) (fun hc7 => ?_)
 have hmore := hc7
 have hop2 := hop.trans (openT_cut hlp hRA2 (q := decP q) hmore)
 simp only [show (decP q).k = q.k from rfl, show (decP q).whole = q.whole from rfl] at hop2
 refine sw_seq <| Dr hH (slc (slk (slk (slk (slk sln))))) ?_
 clear hH; intro w63 hH hS9
 refine Gp2 2 [0,1] 73 (Pp xb 0) 74 (Pp b59 0) hS9 <| Dq 2 rfl (fun _ hS => (Lk 3 hS rfl rfl rfl)) hS9 <| Gp1 1 [4] 77 (Pp b59 2) hS9 <| Dq 5 rfl (fun _ hS => (Lk 3 hS rfl rfl rfl)) hS9 <| gds 3 (Sc rfl rfl (RName19_ct q.k _ (by first | omega | (simp <;> omega))) ?_)
 rintro _ w64 ⟨rfl, hF65⟩
 replace hH := hH.call hF65
 refine Nl (hH.sb (slc (slk (slk (slk (slk sln)))))) fun hS9 => gdk [(0, Pp xb 0), (4, Pp b1 0), (11, Pp b59 0), (73, Pp xb 0), (76, .string (bs (nameF q.k))), (78, Ni q.whole)] ?_
 obtain ⟨R66, hr67⟩ : ∃ R, doD Dj 3 (nameF q.k) [] ((q.whole : Nat) : Int) = R := ⟨_, rfl⟩
 replace hH : Hp w w64 _ _ ([_] ++ [_, _, _, _]) := hH
 refine gds 6 (Sc rfl rfl (by have h9 := RDo3_ct xb _ Dj part Lj (nameF q.k) _ [] ((q.whole : Nat) : Int) M _ hH.mine hFj hAj hPj hGj (by omega) (by omega) (by have := nameF_short q.k (by omega); omega) (RB.nil _) (by simp); rw [hr67] at h9; exact h9) ?_)
 rintro _ w71 ⟨rv68, L69, rfl, hF70, hF72⟩
 replace hH := hH.turns hF72
 replace hH := hH.n5
 have hAR66 : ArOk R66.1.ar := by rw [← hr67]; exact arOk_do hAj _ _ _ _
 have hPR66 : PartOk R66.1.ar part := by rw [← hr67]; exact part_do hPj _ _ _ _
 have hGR66 : Good R66.1.fs M := by rw [← hr67]; exact (good_doD hGj _ _ _ _).mono (by simp)
 have hNR66 : L69.length ≤ Lj.length + 1 := by have h1 := congrArg List.length hF70; have h2 := congrArg List.length hFj; have h3 := len_doD Dj 3 (nameF q.k) [] ((q.whole : Nat) : Int); rw [hr67] at h3; rw [List.length_map] at h1 h2; omega
 refine Nl (hH.sb (slk (slk (slk (slk sln))))) fun hS9 => Gp1 1 [7] 12 (Ni R66.2) hS9 <| gdn [(0, Pp xb 0), (4, Pp b1 0), (11, Pp b59 0), (12, Ni R66.2)] <| sw_next <| sw_sr <| Go1 2 81 (.bool (((R66.2 : Nat) : Int) != (0 : Int))) <| Dn <| If rfl (fun hc8 => ?_) (fun hc8 => ?_)
 have hz9 := hc8
 rw [hr67, if_pos (by simpa using hz9)] at hop2
 refine sw_sr <| Go2 3 2 (.pointer none) 3 (Ni R66.2) <| Dn <| Rt2 rfl rfl rfl ?_
 replace hH := hH.fr5
 replace hH := (hH.sb (slk sln)).n1
 exact ropen_no hop2 hF70 (hH.turned)
 have hy9 := hc8
 rw [hr67, if_neg (by simpa using hy9)] at hop2
 refine Sk <| sw_sr <| Go2 2 83 (Pp xb 0) 84 (Pp b59 0) <| Gq rfl (Lk 3 hH rfl rfl rfl) <| gl_st (Sc rfl rfl (RName19_ct q.k _ (by first | omega | (simp <;> omega))) ?_)
 rintro _ w73 ⟨rfl, hF74⟩
 replace hH := hH.call hF74
 obtain ⟨R75, hr76⟩ : ∃ R, doD R66.1 1 (nameF q.k) [] 0 = R := ⟨_, rfl⟩
 replace hH : Hp w w73 _ _ ([_] ++ [_, _, _, _]) := hH.fr5
 refine gl_st (Sc rfl rfl (by have h9 := RDo1_ct xb _ R66.1 part L69 (nameF q.k) _ [] 0 M _ hH.mine hF70 hAR66 hPR66 hGR66 (by omega) (by omega) (by have := nameF_short q.k (by omega); omega) (RB.nil _) (by simp); rw [hr76] at h9; exact h9) ?_)
 rintro _ w80 ⟨rv77, L78, rfl, hF79, hF81⟩
 replace hH := hH.turns hF81
 replace hH := hH.n5
 have hAR75 : ArOk R75.1.ar := by rw [← hr76]; exact arOk_do hAR66 _ _ _ _
 have hPR75 : PartOk R75.1.ar part := by rw [← hr76]; exact part_do hPR66 _ _ _ _
 have hGR75 : Good R75.1.fs M := by rw [← hr76]; exact (good_doD hGR66 _ _ _ _).mono (by simp)
 have hNR75 : L78.length ≤ L69.length + 1 := by have h1 := congrArg List.length hF79; have h2 := congrArg List.length hF70; have h3 := len_doD R66.1 1 (nameF q.k) [] 0; rw [hr76] at h3; rw [List.length_map] at h1 h2; omega
 refine Go1 1 13 (Ni R75.2) <| Dn <| sw_seq <| sw_sr <| Go1 2 89 (.bool (((R75.2 : Nat) : Int) != (0 : Int))) <| Dn <| If rfl (fun hc9 => ?_) (fun hc9 => ?_)
 have hop2 := hop2.trans (openS_no hr76 (by simpa using hc9))
 refine sw_sr <| Go2 3 2 (.pointer none) 3 (Ni R75.2) <| Dn <| Rt2 rfl rfl rfl ?_
 replace hH := hH.fr5
 replace hH := (hH.sb (slk sln)).n1
 exact ropen_no hop2 hF79 (hH.turned)
 have hop2 := hop2.trans (openS_yes hr76 (by simpa using hc9))
 refine Sk <| sw_sr <| Go2 3 2 (Pp b1 0) 3 (.int .i64 0) <| Dn <| Rt2 rfl rfl rfl ?_
 replace hH := hH.fr5.fr4.fr4
 replace hH := (hH.sb (slk (slk (slk sln)))).n3
 exact ropen_yes hop2 hF79 hL2 (hH.turned)
 have hmore := hc7
 have hop2 := hop.trans (openT_no hlp hRA2 (q := decP q) hmore)
 simp only [show (decP q).k = q.k from rfl, show (decP q).whole = q.whole from rfl] at hop2
 refine Sk <| sw_sr <| Go2 2 83 (Pp xb 0) 84 (Pp b59 0) <| Gq rfl (Lk 4 hH rfl rfl rfl) <| gl_st (Sc rfl rfl (RName19_ct q.k _ (by first | omega | (simp <;> omega))) ?_)
 rintro _ w82 ⟨rfl, hF83⟩
 replace hH := hH.call hF83
 obtain ⟨R84, hr85⟩ : ∃ R, doD Dj 1 (nameF q.k) [] 0 = R := ⟨_, rfl⟩
 replace hH : Hp w w82 _ _ ([_] ++ [_, _, _, _]) := hH
 refine gl_st (Sc rfl rfl (by have h9 := RDo1_ct xb _ Dj part Lj (nameF q.k) _ [] 0 M _ hH.mine hFj hAj hPj hGj (by omega) (by omega) (by have := nameF_short q.k (by omega); omega) (RB.nil _) (by simp); rw [hr85] at h9; exact h9) ?_)
 rintro _ w89 ⟨rv86, L87, rfl, hF88, hF90⟩
 replace hH := hH.turns hF90
 replace hH := hH.n5
 have hAR84 : ArOk R84.1.ar := by rw [← hr85]; exact arOk_do hAj _ _ _ _
 have hPR84 : PartOk R84.1.ar part := by rw [← hr85]; exact part_do hPj _ _ _ _
 have hGR84 : Good R84.1.fs M := by rw [← hr85]; exact (good_doD hGj _ _ _ _).mono (by simp)
 have hNR84 : L87.length ≤ Lj.length + 1 := by have h1 := congrArg List.length hF88; have h2 := congrArg List.length hFj; have h3 := len_doD Dj 1 (nameF q.k) [] 0; rw [hr85] at h3; rw [List.length_map] at h1 h2; omega
 refine Go1 1 13 (Ni R84.2) <| Dn <| sw_seq <| sw_sr <| Go1 2 89 (.bool (((R84.2 : Nat) : Int) != (0 : Int))) <| Dn <| If rfl (fun hc10 => ?_) (fun hc10 => ?_)
 have hop2 := hop2.trans (openS_no hr85 (by simpa using hc10))
 refine sw_sr <| Go2 3 2 (.pointer none) 3 (Ni R84.2) <| Dn <| Rt2 rfl rfl rfl ?_
 replace hH := hH.fr5
 replace hH := (hH.sb (slk sln)).n1
 exact ropen_no hop2 hF88 (hH.turned)
 have hop2 := hop2.trans (openS_yes hr85 (by simpa using hc10))
 refine Sk <| sw_sr <| Go2 3 2 (Pp b1 0) 3 (.int .i64 0) <| Dn <| Rt2 rfl rfl rfl ?_
 replace hH := hH.fr5.fr4.fr4
 replace hH := (hH.sb (slk (slk (slk sln)))).n3
 exact ropen_yes hop2 hF88 hL2 (hH.turned)
end Go.Proofs.YtajapgjemefoiaaGreatDoor
/- Law 19 (WalOpens): how much lies in a disk's files, and how many frames that can be. Plain mathematics. -/
set_option linter.unusedVariables false
namespace Go.Proofs.YtajapgjemefoiaaGreatDoor
open Go.SW Go.RowKit
def totB (F : List Fil) : Nat := (F.map fun f => f.b.length).sum
theorem totB_cons (f : Fil) (F : List Fil) : totB (f :: F) = f.b.length + totB F := by simp [totB]
theorem tot_del : ∀ (F : List Fil) (nm : List UInt8), totB (delF F nm) + (oldF F nm).b.length ≤ totB F
  | [], nm => by simp [delF, oldF, getF, totB]
  | f :: F, nm => by
    have ih := tot_del F nm
    unfold delF oldF getF at *
    rw [List.filter_cons, List.find?_cons, totB_cons]
    cases h : f.name == nm with
    | true =>
      simp only [Bool.not_true, Bool.false_eq_true, if_false, Option.getD_some]
      omega
    | false =>
      simp only [Bool.not_false, if_true, totB_cons]
      omega
theorem tot_set {F : List Fil} (h : Srt F) (f : Fil) : totB (setF F f) + (oldF F f.name).b.length ≤ totB F + f.b.length := by
  have h1 : totB (setF F f) = totB (f :: delF F f.name) := ((setF_perm h f).map (fun f : Fil => f.b.length)).sum_nat
  have h2 := tot_del F f.name
  rw [h1, totB_cons]
  omega
theorem tot_app {D : Dsk} (h : Srt D.fs) (nm p : List UInt8) : totB (doD D 0 nm p 0).1.fs ≤ totB D.fs + p.length := by
  have key : ∀ q : List UInt8, q.length ≤ p.length → totB (doF D.fs 0 nm q 0) ≤ totB D.fs + p.length := by
    intro q hq
    have h1 := tot_set h ⟨nm, (oldF D.fs nm).b ++ q, (oldF D.fs nm).sure⟩
    simp only [List.length_append] at h1
    show totB (setF D.fs ⟨nm, (oldF D.fs nm).b ++ q, (oldF D.fs nm).sure⟩) ≤ _
    omega
  unfold doD
  split
  · exact Nat.le_add_right _ _
  split
  · exact Nat.le_add_right _ _
  · simp only
    split
    · refine key _ ?_
      split
      · rw [List.length_take]; omega
      · exact Nat.le_refl _
    · exact Nat.le_add_right _ _
theorem scan_few : ∀ (n : Nat) (b : List UInt8) (k : Nat), b.length - k = n → (scanA b k).1.length * 8 ≤ b.length - k := by
  intro n
  induction n using Nat.strongRecOn with
  | ind n ih =>
    intro b k hn
    by_cases h : b.length ≤ k
    · rw [scan_end h]; simp
    · by_cases h2 : (openF (b.drop k)).2.2 = 0
      · have hu := openF_used h2
        rw [List.length_drop] at hu
        rw [scan_step (by omega) h2]
        have := ih (b.length - (k + (openF (b.drop k)).2.1)) (by omega) b (k + (openF (b.drop k)).2.1) rfl
        simp only [List.length_cons]
        omega
      · rw [scan_err (by omega) h2]; simp
def frN (l : List Sg) : Nat := (l.map fun s => s.fr.length).sum
theorem frN_ins (l : List Sg) (x : Sg) : frN (insSg l x) = frN l + x.fr.length := by
  unfold insSg frN
  rw [List.map_append, List.sum_append, List.map_cons, List.sum_cons]
  have h := congrArg (fun m => (m.map fun s : Sg => s.fr.length).sum) (List.take_append_drop (insK9 l x.k) l)
  simp only [List.map_append, List.sum_append] at h
  omega
theorem frN_segs : ∀ (F : List Fil) (l : List Sg), frN (segsF F l) * 8 ≤ frN l * 8 + totB F
  | [], l => by simp [segsF, totB]
  | f :: F, l => by
    rw [totB_cons]
    show frN (segsF F (if numF f.name = 0 then l else insSg l (sgF f))) * 8 ≤ _
    have h1 := frN_segs F (if numF f.name = 0 then l else insSg l (sgF f))
    split at h1
    · rename_i h; rw [if_pos h]; omega
    · rename_i h
      rw [if_neg h]
      rw [frN_ins] at h1
      have := scan_few _ f.b 0 rfl
      have e : (sgF f).fr.length = (scanA f.b 0).1.length := rfl
      omega
theorem recN_dec : ∀ (S : List SV), recN (S.map decP) = frN (S.map SV.sg)
  | [] => rfl
  | q :: S => by
    have ih := recN_dec S
    unfold recN frN at *
    simp only [List.map_cons, List.flatten_cons, List.length_append, List.sum_cons]
    rw [ih]
    congr 1
    unfold PV.recs decP SV.sg
    simp
theorem rec_few {F : List Fil} {M : Nat} (h : totB F ≤ M) {S : List SV} (hS : S.map SV.sg = segsF F []) : recN (S.map decP) * 8 ≤ M := by
  rw [recN_dec, hS]
  have := frN_segs F []
  have e : frN [] = 0 := rfl
  omega
theorem parts_few8 : ∀ {F : List Fil} {ps : List Pt}, partsF F = some ps → (ps.map (·.rs)).flatten.length * 8 ≤ totB F
  | [], ps, h => by simp only [partsF, Option.some.injEq] at h; rw [← h]; simp
  | f :: F, ps, h => by
    rw [partsF] at h
    rw [totB_cons]
    split at h
    · have := parts_few8 h; omega
    · obtain ⟨p, h1, h2⟩ := Option.bind_eq_some_iff.1 h
      obtain ⟨r, h3, rfl⟩ := Option.map_eq_some_iff.1 h2
      have ih := parts_few8 h3
      unfold ptF at h1
      obtain ⟨rs, h4, rfl⟩ := Option.map_eq_some_iff.1 h1
      have h5 := rowsR_len h4
      have := scan_few _ f.b 0 rfl
      simp only [List.map_cons, List.flatten_cons, List.length_append]
      omega
theorem parts_few9 {F : List Fil} {M : Nat} (h : totB F ≤ M) {ps : List Pt} (hp : (partsF F).map sortP = some ps) : (ps.map (·.rs)).flatten.length * 8 ≤ M := by
  obtain ⟨p0, h1, rfl⟩ := Option.map_eq_some_iff.1 hp
  have h2 := parts_few8 h1
  have h3 : ((sortP p0).map (·.rs)).flatten.length = (p0.map (·.rs)).flatten.length := by
    rw [List.length_flatten, List.length_flatten, List.map_map, List.map_map]
    exact ((List.mergeSort_perm p0 _).map _).sum_nat
  omega
end Go.Proofs.YtajapgjemefoiaaGreatDoor
