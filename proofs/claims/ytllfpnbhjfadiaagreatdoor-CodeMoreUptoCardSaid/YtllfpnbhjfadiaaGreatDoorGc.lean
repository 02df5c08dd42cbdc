/- Gc: several texts in one. -/
import Derived.Test.YtllfpnbhjfadiaaGreatDoorGb
import Derived.Test.YtllfpnbhjfadiaaGreatDoorGa
import Derived.Lib.Strings
/- Layer 2 (class): a class is written: what the program's functions answer. -/
set_option maxRecDepth 100000
set_option maxHeartbeats 2000000
set_option linter.unusedVariables false
set_option linter.unusedSimpArgs false
namespace Go.Proofs.YtllfpnbhjfadiaaGreatDoor
open Go.RowKit Go.SW
theorem sign_nrt : ∀ b : Fin 256, 0 ≤ Lib.indexByte [10, 13, 9] (UInt8.ofNat b.val) → signC b.val = [92] ++ (([110, 114, 116].drop (Lib.indexByte [10, 13, 9] (UInt8.ofNat b.val)).toNat).take (((Lib.indexByte [10, 13, 9] (UInt8.ofNat b.val)).toNat + 1) - (Lib.indexByte [10, 13, 9] (UInt8.ofNat b.val)).toNat)) := by decide +kernel
theorem sign_hex : ∀ b : Fin 256, Lib.indexByte [10, 13, 9] (UInt8.ofNat b.val) < 0 → (b.val < 32 ∨ 126 < b.val) → signC b.val = [92, 120] ++ (([48, 49, 50, 51, 52, 53, 54, 55, 56, 57, 97, 98, 99, 100, 101, 102].drop (b.val / 16)).take (((b.val / 16) + 1) - (b.val / 16))) ++ (([48, 49, 50, 51, 52, 53, 54, 55, 56, 57, 97, 98, 99, 100, 101, 102].drop (b.val % 16)).take (((b.val % 16) + 1) - (b.val % 16))) := by decide +kernel
theorem sign_five : ∀ b : Fin 256, 0 ≤ Lib.indexByte [91, 93, 92, 45, 94] (UInt8.ofNat b.val) → b.val < 128 ∧ signC b.val = [92] ++ [UInt8.ofNat b.val] := by decide +kernel
theorem sign_one : ∀ b : Fin 256, Lib.indexByte [10, 13, 9] (UInt8.ofNat b.val) < 0 → 32 ≤ b.val → b.val ≤ 126 → Lib.indexByte [91, 93, 92, 45, 94] (UInt8.ofNat b.val) < 0 → signC b.val = [UInt8.ofNat b.val] := by decide +kernel
theorem nextF_has (x : Cl) (inn : Bool) : ∀ (k b : Nat), nextF x inn k b < b + k → x.has (nextF x inn k b) = inn
  | 0, b, h => by rw [nextF] at h; omega
  | k + 1, b, h => by
    rw [nextF] at h ⊢
    split
    · rename_i hb; simpa using hb
    · rename_i hb
      rw [if_neg hb] at h
      exact nextF_has x inn k (b + 1) (by omega)
theorem nextC_has {x : Cl} {b : Nat} (hb : b ≤ 256) (inn : Bool) (h : nextC x b inn < 256) : x.has (nextC x b inn) = inn := nextF_has x inn _ b (by unfold nextC at h; omega)
theorem nextC_gt {x : Cl} {b : Nat} (hb : b < 256) (h : x.has b = true) : b + 1 ≤ nextC x b false := by
  rw [nextC_step hb, if_neg (by simp [h])]
  exact (nextC_le (by omega) false).1
def rnC (r : Nat × Nat) : List Value := [.int .i64 ((r.1 : Nat) : Int), .int .i64 ((r.2 : Nat) : Int)]
theorem rnC_len (r : Nat × Nat) : (rnC r).length = 2 := rfl
theorem isZ_int (x : Cl) : (((x.a : Int) == 0) && (((x.b : Int) == 0) && (((x.c : Int) == 0) && ((x.d : Int) == 0)))) = x.isZ := by
  unfold Cl.isZ
  rw [Bool.eq_iff_iff]
  simp
theorem runsF_next {x : Cl} {k lo : Nat} (h : lo < 256) : runsF x (k + 1) lo = (lo, nextC x lo false - 1) :: runsF x k (nextC x (nextC x lo false) true) := by rw [runsF, if_pos h]
theorem runsF_end {x : Cl} {k : Nat} : runsF x (k + 1) 256 = [] := by rw [runsF, if_neg (by omega)]

theorem CSignW_ct (b : Nat) (w : World) (hb : b < 256) :
    Fun Tryz.prog 154 [.int .i64 ((b : Nat) : Int)] w fun v w' => v = .string (bs (signC b)) ∧ Fresh w w' [] := by
 refine fun_of_sw Tryz.func154 rfl 48 rfl rfl ?_
 have hH := Hp.start w
 have hi3 := idx_lt [10, 13, 9] (UInt8.ofNat b)
 simp only [List.length_cons, List.length_nil] at hi3
 refine sw_sr <| Go0 1 <| Dn <| sw_sr <| Gc0 2 6 (.int .u8 (IntKind.u8.wrap (b : Int))) (.int .u8 (b : Int)) (cv_u8 (by omega)) <| Go1 1 3 (.int .u8 (b : Int)) <| Dn <| sw_seq <| sw_sr <| Go1 1 7 (.int .u8 (b : Int)) <| gl_st (Sc rfl rfl (IndexByte_ct [10, 13, 9] b _) ?_)
 rintro _ w1 ⟨rfl, hF2⟩
 replace hH := hH.call hF2
 refine Go1 1 4 (.int .i64 (Lib.indexByte [10, 13, 9] (UInt8.ofNat b))) <| Dn <| sw_sr <| Go1 2 10 (.bool (decide ((Lib.indexByte [10, 13, 9] (UInt8.ofNat b)) ≥ (0 : Int)))) <| Dn <| If rfl (fun hc1 => ?_) (fun hc1 => ?_)
 have hn0 := hc1
 refine sw_sr <| Go1 1 11 (.int .i64 (Lib.indexByte [10, 13, 9] (UInt8.ofNat b))) ?_
 obtain ⟨i, hi⟩ : ∃ i : Nat, (Lib.indexByte [10, 13, 9] (UInt8.ofNat b)) = i := ⟨(Lib.indexByte [10, 13, 9] (UInt8.ofNat b)).toNat, by omega⟩
 have hsn := sign_nrt ⟨b, hb⟩ (by show 0 ≤ (Lib.indexByte [10, 13, 9] (UInt8.ofNat b)); omega)
 simp only [hi, Int.toNat_natCast] at hsn
 refine gl_cv 11 (Ni i) (by rw [hi]) rfl <| Go1 1 12 (.int .i64 (Lib.indexByte [10, 13, 9] (UInt8.ofNat b))) <| gl_cv 12 (Ni i) (by rw [hi]) rfl <| Gw0 1 13 ((i : Int) + 1) ((i + 1 : Nat) : Int) <| Gq rfl (rd_scut (by kernel_rfl) rfl (.inr ⟨_, _, rfl, rfl⟩) (.inr ⟨_, _, rfl, rfl⟩) (by omega) (by show _ ≤ 3; omega)) <| Gq rfl (rd_sadd (by kernel_rfl) rfl rfl (by simp <;> omega)) <| Go1 1 2 (.string (bs ([92] ++ (([110, 114, 116].drop i).take ((i + 1) - i))))) <| Dn <| Rt1 rfl rfl ?_
 exact ⟨by rw [← hsn], hH.fresh⟩
 have hn0 := hc1
 refine Sk <| sw_seq <| sw_block <| sw_sr <| Go1 3 19 (.bool (decide ((b : Int) < (32 : Int)))) <| Gi 19 rfl (fun hg2 => ?_) (fun hg2 => ?_)
 have hlow := hg2
 refine Go1 4 16 (.bool true) <| Dn <| It <| sw_seq <| Dr hH sln ?_
 clear hH; intro w3 hH hS9
 refine Dc1 2 [0,1] 24 (.int .u8 (Int.fdiv (b : Int) (2 ^ 4))) (.int .u8 ((b / 16 : Nat) : Int)) (cv_shr) 23 (.int .u8 (b : Int)) hS9 <| Dc1 2 [2,3] 26 (.int .u8 (Int.fdiv (b : Int) (2 ^ 4))) (.int .u8 ((b / 16 : Nat) : Int)) (cv_shr) 25 (.int .u8 (b : Int)) hS9 <| Dc0 1 [4] 27 (.int .u8 (IntKind.u8.wrap (((b / 16 : Nat) : Int) + 1))) (.int .u8 (((b / 16) + 1 : Nat) : Int)) (cv_u8 (by omega)) hS9 <| Dq 5 rfl (fun _ hS => (rd_scut (by kernel_rfl) rfl (.inr ⟨_, _, rfl, rfl⟩) (.inr ⟨_, _, rfl, rfl⟩) (by omega) (by show _ ≤ 16; omega))) hS9 <| Dq 6 rfl (fun _ hS => (rd_sadd (by kernel_rfl) rfl rfl (by simp <;> omega))) hS9 <| Dc1 2 [7,8] 31 (.int .u8 (IntKind.u8.wrap (((BitVec.ofInt 8 (b : Int) &&& BitVec.ofInt 8 15).toNat : Nat) : Int))) (.int .u8 ((b % 16 : Nat) : Int)) ((by rw [show b % 16 = b &&& 15 from (Nat.and_two_pow_sub_one_eq_mod b 4).symm]; exact cv_and_u8 (a := b) (b := 15) hb (by decide))) 30 (.int .u8 (b : Int)) hS9 <| Dc1 2 [9,10] 33 (.int .u8 (IntKind.u8.wrap (((BitVec.ofInt 8 (b : Int) &&& BitVec.ofInt 8 15).toNat : Nat) : Int))) (.int .u8 ((b % 16 : Nat) : Int)) ((by rw [show b % 16 = b &&& 15 from (Nat.and_two_pow_sub_one_eq_mod b 4).symm]; exact cv_and_u8 (a := b) (b := 15) hb (by decide))) 32 (.int .u8 (b : Int)) hS9 <| Dc0 1 [11] 34 (.int .u8 (IntKind.u8.wrap (((b % 16 : Nat) : Int) + 1))) (.int .u8 (((b % 16) + 1 : Nat) : Int)) (cv_u8 (by omega)) hS9 <| Dq 12 rfl (fun _ hS => (rd_scut (by kernel_rfl) rfl (.inr ⟨_, _, rfl, rfl⟩) (.inr ⟨_, _, rfl, rfl⟩) (by omega) (by show _ ≤ 16; omega))) hS9 <| Dq 13 rfl (fun _ hS => (rd_sadd (by kernel_rfl) rfl rfl (by simp <;> omega))) hS9 <| Gp1 1 [14] 2 (.string (bs (([92, 120] ++ (([48, 49, 50, 51, 52, 53, 54, 55, 56, 57, 97, 98, 99, 100, 101, 102].drop (b / 16)).take (((b / 16) + 1) - (b / 16)))) ++ (([48, 49, 50, 51, 52, 53, 54, 55, 56, 57, 97, 98, 99, 100, 101, 102].drop (b % 16)).take (((b % 16) + 1) - (b % 16)))))) hS9 <| gdn [(2, .string (bs (([92, 120] ++ (([48, 49, 50, 51, 52, 53, 54, 55, 56, 57, 97, 98, 99, 100, 101, 102].drop (b / 16)).take (((b / 16) + 1) - (b / 16)))) ++ (([48, 49, 50, 51, 52, 53, 54, 55, 56, 57, 97, 98, 99, 100, 101, 102].drop (b % 16)).take (((b % 16) + 1) - (b % 16))))))] <| sw_next <| Rt1 rfl rfl ?_
 exact ⟨by rw [sign_hex ⟨b, hb⟩ (by show Lib.indexByte _ (UInt8.ofNat b) < 0; omega) (by show b < 32 ∨ 126 < b; omega)], hH.fresh⟩
 have hlow := hg2
 refine Go1 4 16 (.bool (decide ((b : Int) > (126 : Int)))) <| Dn <| If rfl (fun hc4 => ?_) (fun hc4 => ?_)
 have hw := hc4
 refine sw_seq <| Dr hH sln ?_
 clear hH; intro w4 hH hS9
 refine Dc1 2 [0,1] 24 (.int .u8 (Int.fdiv (b : Int) (2 ^ 4))) (.int .u8 ((b / 16 : Nat) : Int)) (cv_shr) 23 (.int .u8 (b : Int)) hS9 <| Dc1 2 [2,3] 26 (.int .u8 (Int.fdiv (b : Int) (2 ^ 4))) (.int .u8 ((b / 16 : Nat) : Int)) (cv_shr) 25 (.int .u8 (b : Int)) hS9 <| Dc0 1 [4] 27 (.int .u8 (IntKind.u8.wrap (((b / 16 : Nat) : Int) + 1))) (.int .u8 (((b / 16) + 1 : Nat) : Int)) (cv_u8 (by omega)) hS9 <| Dq 5 rfl (fun _ hS => (rd_scut (by kernel_rfl) rfl (.inr ⟨_, _, rfl, rfl⟩) (.inr ⟨_, _, rfl, rfl⟩) (by omega) (by show _ ≤ 16; omega))) hS9 <| Dq 6 rfl (fun _ hS => (rd_sadd (by kernel_rfl) rfl rfl (by simp <;> omega))) hS9 <| Dc1 2 [7,8] 31 (.int .u8 (IntKind.u8.wrap (((BitVec.ofInt 8 (b : Int) &&& BitVec.ofInt 8 15).toNat : Nat) : Int))) (.int .u8 ((b % 16 : Nat) : Int)) ((by rw [show b % 16 = b &&& 15 from (Nat.and_two_pow_sub_one_eq_mod b 4).symm]; exact cv_and_u8 (a := b) (b := 15) hb (by decide))) 30 (.int .u8 (b : Int)) hS9 <| Dc1 2 [9,10] 33 (.int .u8 (IntKind.u8.wrap (((BitVec.ofInt 8 (b : Int) &&& BitVec.ofInt 8 15).toNat : Nat) : Int))) (.int .u8 ((b % 16 : Nat) : Int)) ((by rw [show b % 16 = b &&& 15 from (Nat.and_two_pow_sub_one_eq_mod b 4).symm]; exact cv_and_u8 (a := b) (b := 15) hb (by decide))) 32 (.int .u8 (b : Int)) hS9 <| Dc0 1 [11] 34 (.int .u8 (IntKind.u8.wrap (((b % 16 : Nat) : Int) + 1))) (.int .u8 (((b % 16) + 1 : Nat) : Int)) (cv_u8 (by omega)) hS9 <| Dq 12 rfl (fun _ hS => (rd_scut (by kernel_rfl) rfl (.inr ⟨_, _, rfl, rfl⟩) (.inr ⟨_, _, rfl, rfl⟩) (by omega) (by show _ ≤ 16; omega))) hS9 <| Dq 13 rfl (fun _ hS => (rd_sadd (by kernel_rfl) rfl rfl (by simp <;> omega))) hS9 <| Gp1 1 [14] 2 (.string (bs (([92, 120] ++ (([48, 49, 50, 51, 52, 53, 54, 55, 56, 57, 97, 98, 99, 100, 101, 102].drop (b / 16)).take (((b / 16) + 1) - (b / 16)))) ++ (([48, 49, 50, 51, 52, 53, 54, 55, 56, 57, 97, 98, 99, 100, 101, 102].drop (b % 16)).take (((b % 16) + 1) - (b % 16)))))) hS9 <| gdn [(2, .string (bs (([92, 120] ++ (([48, 49, 50, 51, 52, 53, 54, 55, 56, 57, 97, 98, 99, 100, 101, 102].drop (b / 16)).take (((b / 16) + 1) - (b / 16)))) ++ (([48, 49, 50, 51, 52, 53, 54, 55, 56, 57, 97, 98, 99, 100, 101, 102].drop (b % 16)).take (((b % 16) + 1) - (b % 16))))))] <| sw_next <| Rt1 rfl rfl ?_
 exact ⟨by rw [sign_hex ⟨b, hb⟩ (by show Lib.indexByte _ (UInt8.ofNat b) < 0; omega) (by show b < 32 ∨ 126 < b; omega)], hH.fresh⟩
 have hw := hc4
 refine sw_sr <| Go1 1 38 (.int .u8 (b : Int)) <| gl_st (Sc rfl rfl (IndexByte_ct [91, 93, 92, 45, 94] b _) ?_)
 rintro _ w5 ⟨rfl, hF6⟩
 replace hH := hH.call hF6
 refine Go1 2 37 (.bool (decide ((Lib.indexByte [91, 93, 92, 45, 94] (UInt8.ofNat b)) ≥ (0 : Int)))) <| Dn <| If rfl (fun hc5 => ?_) (fun hc5 => ?_)
 have h5 := hc5
 refine sw_sr <| Gc0 2 42 (.int .i32 (IntKind.i32.wrap (b : Int))) (.int .i32 (b : Int)) (cv_i32 (by omega)) <| Gq rfl (rd_i2s (c := b) rfl (sign_five ⟨b, hb⟩ (by show 0 ≤ Lib.indexByte _ (UInt8.ofNat b); omega)).1 (by kernel_rfl) (by kernel_rfl)) <| Gq rfl (rd_sadd (by kernel_rfl) rfl rfl (by simp <;> omega)) <| Go1 1 2 (.string (bs ([92] ++ [UInt8.ofNat b]))) <| Dn <| Rt1 rfl rfl ?_
 exact ⟨by rw [(sign_five ⟨b, hb⟩ (by show 0 ≤ Lib.indexByte _ (UInt8.ofNat b); omega)).2], hH.fresh⟩
 have h5 := hc5
 refine sw_skip <| bkN <| sw_next <| sw_sr <| Gc0 2 46 (.int .i32 (IntKind.i32.wrap (b : Int))) (.int .i32 (b : Int)) (cv_i32 (by omega)) <| Gq rfl (rd_i2s (c := b) rfl (by omega) (by kernel_rfl) (by kernel_rfl)) <| Go1 1 2 (.string (bs [UInt8.ofNat b])) <| Dn <| Rt1 rfl rfl ?_
 exact ⟨by rw [sign_one ⟨b, hb⟩ (by show Lib.indexByte _ (UInt8.ofNat b) < 0; omega) (by show 32 ≤ b; omega) (by show b ≤ 126; omega) (by show Lib.indexByte _ (UInt8.ofNat b) < 0; omega)], hH.fresh⟩
theorem CRuns_ct (x : Cl) (w : World) (hx : x.Ok) :
    Fun Tryz.prog 153 [.agg #[.int .u64 ((x.a : Nat) : Int), .int .u64 ((x.b : Nat) : Int), .int .u64 ((x.c : Nat) : Int), .int .u64 ((x.d : Nat) : Int)]] w fun v w' => ∃ v1, v = v1 ∧ Fresh w w' [.row v1 251 2 (runsC x).length (rowC rnC (runsC x))] := by
 refine fun_of_sw Tryz.func153 rfl 27 rfl rfl ?_
 have hH := Hp.start w
 refine sw_sr <| gl_st (Bx [.int .u64 ((x.a : Nat) : Int), .int .u64 ((x.b : Nat) : Int), .int .u64 ((x.c : Nat) : Int), .int .u64 ((x.d : Nat) : Int)] rfl hH ?_)
 clear hH; intro b1 w2 hH
 refine Go0 1 <| Dn <| sw_sr <| Go1 1 3 (.slice none 0 0) ?_
 replace hH := hH.nilRow 251 2
 refine Dn <| sw_seq <| sw_sr <| Gq rfl (La 0 [.int .u64 ((x.a : Nat) : Int), .int .u64 ((x.b : Nat) : Int), .int .u64 ((x.c : Nat) : Int), .int .u64 ((x.d : Nat) : Int)] hH rfl rfl) <| Go1 1 7 (.agg #[.int .u64 0, .int .u64 0, .int .u64 0, .int .u64 0]) <| Gq rfl (rd_arr4_eql (e := 36) (by kernel_rfl) (by kernel_rfl) (by kernel_rfl) (by kernel_rfl) (k0 := .u64) (by kernel_rfl) rfl rfl) <| Dn <| sw_cond rfl rfl (fun hc1 => ?_) (fun hc1 => ?_)
 rw [isZ_int] at hc1
 have hz := hc1
 refine sw_sr <| Go1 1 2 (.slice none 0 0) <| Dn <| Rt1 rfl rfl ?_
 replace hH := hH.nilRow 251 2
 exact ⟨_, rfl, (Hp.cast (hH.fr2.sb (slk sln)) (by unfold runsC; rw [if_pos hz]; rfl)).fresh⟩
 rw [isZ_int] at hc1
 have hz := hc1
 refine Sk <| sw_seq <| sw_sr <| Gq rfl (La 0 [.int .u64 ((x.a : Nat) : Int), .int .u64 ((x.b : Nat) : Int), .int .u64 ((x.c : Nat) : Int), .int .u64 ((x.d : Nat) : Int)] hH rfl rfl) <| gl_st (Sc rfl rfl (Next_ct x 0 true _ hx (by omega)) ?_)
 rintro _ w3 ⟨rfl, hF4⟩
 replace hH := hH.call hF4
 refine Go1 1 4 (Ni (nextC x 0 true)) ?_
 have h0n := nextC_le (x := x) (b := 0) (by omega) true
 refine Dn <| sw_block <| Lp (γ := List (Nat × Nat) × Nat × Nat × Option Addr × Nat) hH (fun (acc, lo, k, A, c) => [(1, Pp b1 0), (3, .slice A acc.length c), (4, Ni lo)]) (fun (acc, lo, k, A, c) w_ H_ => (runsC x = acc ++ runsF x (k + 1) lo) ∧ (lo ≤ 256) ∧ (lo < 256 → x.has lo = true) ∧ (256 ≤ k + lo) ∧ (acc.length ≤ lo) ∧ H_ [.blk b1 38 [.int .u64 ((x.a : Nat) : Int), .int .u64 ((x.b : Nat) : Int), .int .u64 ((x.c : Nat) : Int), .int .u64 ((x.d : Nat) : Int)], .row (.slice A acc.length c) 251 2 acc.length (rowC rnC acc)]) (fun (acc, lo, k, A, c) => k) ([], nextC x 0 true, 256, none, 0) ?_ ?_
 · exact ⟨by unfold runsC; rw [if_neg (by simpa using hz)]; rfl, h0n.2, fun h => nextC_has (by omega) true h, by omega, Nat.zero_le _, hH⟩
 clear hH
 rintro ⟨acc, lo, k, A, c⟩ w5 ⟨hr, hlo, hhas, hk, hal, hH⟩
 refine swk [(1, Pp b1 0), (3, .slice A acc.length c), (4, Ni lo)] <| sw_seq <| sw_sr <| Go1 2 12 (.bool (decide ((lo : Int) < (256 : Int)))) <| Dn <| If rfl (fun hc2 => ?_) (fun hc2 => ?_)
 refine Sk <| sw_block <| sw_sr <| Gq rfl (La 0 [.int .u64 ((x.a : Nat) : Int), .int .u64 ((x.b : Nat) : Int), .int .u64 ((x.c : Nat) : Int), .int .u64 ((x.d : Nat) : Int)] hH rfl rfl) <| Go1 1 14 (Ni lo) <| gl_st (Sc rfl rfl (Next_ct x lo false _ hx (by omega)) ?_)
 rintro _ w6 ⟨rfl, hF7⟩
 replace hH := hH.call hF7
 refine Go1 1 5 (Ni (nextC x lo false)) ?_
 have h1 := nextC_le (x := x) (b := lo) (by omega) false
 have h1g := nextC_gt (x := x) (b := lo) (by omega) (hhas (by omega))
 refine Dn <| sw_sr <| Gw2 4 19 (((nextC x lo false : Nat) : Int) - 1) (((nextC x lo false) - 1 : Nat) : Int) 16 (.slice A acc.length c) 17 (Ni lo) <| Go1 1 20 (.agg #[Ni lo, Ni ((nextC x lo false) - 1)]) <| gl_st (st_buildS (e := 251) (zv := .agg #[.int .i64 0, .int .i64 0]) (m := 2) (bytes := 16) rfl rfl rfl (by kernel_rfl) (by kernel_rfl) rfl (cs := [Ni lo, Ni ((nextC x lo false) - 1)]) (by kernel_rfl) rfl hH ?_)
 clear hH; intro b8 w9 hH
 refine gl_st (Apd (e := 251) (.agg #[.int .i64 0, .int .i64 0]) 2 16 1 rfl hH rfl rfl rfl (hH.row_reads 2 rfl) (by simp [Value.oneCell']) (by unfold maxLen; omega) (by omega) ?_)
 clear hH; intro v10 w11 hH
 replace hH := hH.row_eq 1 (l' := (acc ++ [(lo, nextC x lo false - 1)]).length) (xs' := rowC rnC (acc ++ [(lo, nextC x lo false - 1)])) rfl (by simp) (by rw [← rowC_app, rowC_one]; rfl)
 obtain ⟨A12, c13, rfl, hl14, hm15⟩ := hH.row_form 1 rfl
 refine Go1 1 3 (.slice A12 ((acc ++ [(lo, nextC x lo false - 1)]).length) c13) <| Dn <| sw_region <| Gq rfl (La 0 [.int .u64 ((x.a : Nat) : Int), .int .u64 ((x.b : Nat) : Int), .int .u64 ((x.c : Nat) : Int), .int .u64 ((x.d : Nat) : Int)] hH rfl rfl) <| Go1 1 24 (Ni (nextC x lo false)) <| gl_st (Sc rfl rfl (Next_ct x (nextC x lo false) true _ hx (by omega)) ?_)
 rintro _ w16 ⟨rfl, hF17⟩
 replace hH := hH.call hF17
 refine Go1 1 4 (Ni (nextC x (nextC x lo false) true)) ?_
 have h2 := nextC_le (x := x) (b := nextC x lo false) h1.2 true
 refine Dd <| bkN <| rnd_end (g := (acc, lo, k, A, c)) (acc ++ [(lo, nextC x lo false - 1)], nextC x (nextC x lo false) true, k - 1, A12, c13) (by kernel_rfl) ?_ ?_
 replace hH := (hH.sb (slk (slk sln))).n2
 · exact ⟨by rw [hr, runsF_next (by omega), show k - 1 + 1 = k from by omega]; simp, h2.2, fun h => nextC_has (by omega) true h, by omega, by simp; omega, hH⟩
 · show k - 1 < k; omega
 refine sw_exit <| thX <| thX <| bkH <| sw_next <| sw_sr <| Go1 2 2 (.slice A acc.length c) <| Dn <| Rt1 rfl rfl ?_
 have h256 : lo = 256 := by omega
 subst h256
 rw [runsF_end, List.append_nil] at hr
 exact ⟨_, rfl, ((hH.sb (slc (slk sln))).cast (by rw [hr])).fresh⟩
theorem runsF_mem {x : Cl} : ∀ (k lo : Nat), lo ≤ 256 → (lo < 256 → x.has lo = true) → ∀ r ∈ runsF x k lo, r.1 ≤ r.2 ∧ r.2 < 256
  | 0, lo, _, _, r, h => by simp [runsF] at h
  | k + 1, lo, h1, h2, r, h => by
    rw [runsF] at h
    split at h
    · rename_i hl
      have ha := nextC_gt hl (h2 hl)
      have hb := (nextC_le (x := x) (b := lo) (by omega) false).2
      rcases List.mem_cons.1 h with h | h
      · subst h; exact ⟨by show lo ≤ nextC x lo false - 1; omega, by show nextC x lo false - 1 < 256; omega⟩
      · exact runsF_mem k _ (nextC_le hb true).2 (fun q => nextC_has hb true q) r h
    · simp at h
theorem runsC_mem {x : Cl} {r : Nat × Nat} (h : r ∈ runsC x) : r.1 ≤ r.2 ∧ r.2 < 256 := by
  unfold runsC at h
  split at h
  · simp at h
  · exact runsF_mem _ _ (nextC_le (by omega) true).2 (fun q => nextC_has (by omega) true q) r h
theorem runsF_len {x : Cl} : ∀ (k lo : Nat), lo ≤ 256 → (lo < 256 → x.has lo = true) → (runsF x k lo).length + lo ≤ 256
  | 0, lo, h, _ => by simpa [runsF] using h
  | k + 1, lo, h1, h2 => by
    rw [runsF]
    split
    · rename_i hl
      have ha := nextC_gt hl (h2 hl)
      have hb := (nextC_le (x := x) (b := lo) (by omega) false).2
      have hc := nextC_le (x := x) hb true
      have := runsF_len k _ hc.2 (fun q => nextC_has hb true q)
      simp only [List.length_cons]
      omega
    · simpa using h1
theorem runsC_len (x : Cl) : (runsC x).length ≤ 256 := by
  unfold runsC
  split
  · simp
  · have := runsF_len (x := x) 257 (nextC x 0 true) (nextC_le (by omega) true).2 (fun q => nextC_has (by omega) true q)
    omega
theorem signC_len (b : Nat) : (signC b).length ≤ 4 := by
  unfold signC hexS
  repeat' split
  all_goals simp
theorem runS_len (r : Nat × Nat) : (runS r).length ≤ 9 := by
  have h1 := signC_len r.1
  have h2 := signC_len r.2
  unfold runS
  repeat' split
  all_goals simp <;> omega
theorem runS_flat (l : List (Nat × Nat)) : (l.flatMap runS).length ≤ 9 * l.length := by
  induction l with
  | nil => simp
  | cons r l ih => have := runS_len r; simp only [List.flatMap_cons, List.length_append, List.length_cons]; omega
theorem textC_len (x : Cl) : (textC x).length ≤ 2306 := by
  have h1 := runS_flat (runsC x)
  have h2 := runsC_len x
  unfold textC
  simp only [List.length_append, List.length_cons, List.length_nil]
  omega
theorem take_flat {l : List (Nat × Nat)} {i : Nat} {r : Nat × Nat} (h : l[i]? = some r) : (l.take (i + 1)).flatMap runS = (l.take i).flatMap runS ++ runS r := by
  rw [List.take_add_one, h]; simp

theorem CText_ct (x : Cl) (w : World) (hx : x.Ok) :
    Fun Tryz.prog 122 [.agg #[.int .u64 ((x.a : Nat) : Int), .int .u64 ((x.b : Nat) : Int), .int .u64 ((x.c : Nat) : Int), .int .u64 ((x.d : Nat) : Int)]] w fun v w' => v = .string (bs (textC x)) ∧ Fresh w w' [] := by
 refine fun_of_sw Tryz.func122 rfl 35 rfl rfl ?_
 have hH := Hp.start w
 have hrl := runsC_len x
 refine sw_sr <| gl_st (Bx [.int .u64 ((x.a : Nat) : Int), .int .u64 ((x.b : Nat) : Int), .int .u64 ((x.c : Nat) : Int), .int .u64 ((x.d : Nat) : Int)] rfl hH ?_)
 clear hH; intro b1 w2 hH
 refine Go0 1 <| Dn <| sw_sr <| gl_st (Alc [.pointer none, .slice none 0 0] rfl hH ?_)
 clear hH; intro b3 w4 hH
 refine Dn <| sw_sr ?_
 replace hH := hH.nilRow 5 1
 replace hH : Hp w w4 _ _ ([_, _] ++ [_]) := hH.fr3.fr3
 refine gl_st (Sc rfl rfl (WriteByte_ct b3 209 (.pointer none) (.slice none 0 0) [] 91 _ (.inl rfl) hH.mine lies_bd (by omega) (by simp only [List.length_append, List.length_cons, List.length_nil]; omega)) ?_)
 rintro _ w6 ⟨v5, rfl, hF7⟩
 replace hH := hH.turns hF7
 replace hH := hH.n3
 refine Dn <| sw_seq <| sw_sr <| Gq rfl (La 0 [.int .u64 ((x.a : Nat) : Int), .int .u64 ((x.b : Nat) : Int), .int .u64 ((x.c : Nat) : Int), .int .u64 ((x.d : Nat) : Int)] hH rfl rfl) <| gl_st (Sc rfl rfl (CRuns_ct x _ hx) ?_)
 rintro _ w9 ⟨v8, rfl, hF10⟩
 replace hH := hH.call hF10
 obtain ⟨A11, c12, rfl, hl13, hm14⟩ := hH.row_form 3 rfl
 refine Gq rfl (Ln (e := 251) rfl) <| Go1 1 10 (.int .i64 0) <| Dn <| sw_block ?_
 replace hH := hH.fr4.fr4.fr4
 replace hH := (hH.sb (slk (slk (slk sln)))).n3
 refine Lp (γ := Nat × Value) hH (fun (i, v) => [(3, Pp b3 0), (8, .slice A11 ((runsC x).length) c12), (9, Ni ((runsC x).length)), (10, Ni i)]) (fun (i, v) w_ H_ => (i ≤ (runsC x).length) ∧ H_ [.blk b3 209 [Pp b3 0, v], .row v 5 1 (([91] ++ ((runsC x).take i).flatMap runS).length) (bv ([91] ++ ((runsC x).take i).flatMap runS)), .row (.slice A11 ((runsC x).length) c12) 251 2 ((runsC x).length) (rowC rnC (runsC x))]) (fun (i, v) => (runsC x).length - i) (0, v5) ?_ ?_
 · exact ⟨Nat.zero_le _, hH⟩
 clear hH
 rintro ⟨i, v⟩ w15 ⟨hi, hH⟩
 refine swk [(3, Pp b3 0), (8, .slice A11 ((runsC x).length) c12), (9, Ni ((runsC x).length)), (10, Ni i)] <| sw_sr <| Go1 1 11 (.bool (decide ((i : Int) < (((runsC x).length : Nat) : Int)))) <| Dn <| sw_seq <| If rfl (fun hc1 => ?_) (fun hc1 => ?_)
 refine Sk <| sw_seq <| sw_block ?_
 obtain ⟨⟨ra, rb⟩, hq⟩ : ∃ r, (runsC x)[i]? = some r := ⟨_, List.getElem?_eq_getElem (by omega)⟩
 obtain ⟨hr1, hr2⟩ := runsC_mem (List.mem_of_getElem? hq)
 simp only at hr1 hr2
 have hfl := runS_flat ((runsC x).take i)
 rw [List.length_take, Nat.min_eq_left (by omega)] at hfl
 have hs1 := signC_len ra
 have hs2 := signC_len rb
 refine sw_sr ?_
 obtain ⟨b17, hb16, hi18⟩ := hH.row_idx 2 rfl i (by omega)
 refine Gq rfl (Ix (e := 251) 2 rfl rfl hi18) <| Gq rfl (rd_loadOA (q := 2) 2 (by kernel_rfl) hH rfl rfl hb16 (by kernel_rfl) [Ni ra, Ni rb] rfl (rowC_allO rnC_len hq _ rfl)) <| gl_st (Alc [.int .i64 0, .int .i64 0] rfl hH ?_)
 clear hH; intro b19 w20 hH
 refine gl_st (Ka 3 [Ni ra, Ni rb] [Ni ra, Ni rb] rfl hH rfl rfl ?_)
 clear hH; intro w21 hH
 refine Dn <| sw_sr <| Gq rfl (rd_idxA (l := 2) (e := 3) (m := 1) (by kernel_rfl) (by kernel_rfl) rfl 0 rfl (by omega)) <| Gq rfl (Lk 3 hH rfl rfl rfl) <| gl_st (Sc rfl rfl (CSignW_ct ra _ (by omega)) ?_)
 rintro _ w22 ⟨rfl, hF23⟩
 replace hH := hH.call hF23
 replace hH : Hp w w22 _ _ ([_, _] ++ [_, _]) := hH
 refine gl_st (Sc rfl rfl (WriteString_ct b3 209 (Pp b3 0) v ([91] ++ ((runsC x).take i).flatMap runS) (signC ra) _ (.inr rfl) hH.mine lies_bd (by simp only [List.length_append, List.length_cons, List.length_nil]; omega)) ?_)
 rintro _ w25 ⟨v24, rfl, hF26⟩
 replace hH := hH.turns hF26
 replace hH := hH.n4
 refine Dn <| sw_sr <| Gq rfl (rd_idxA (l := 2) (e := 3) (m := 1) (by kernel_rfl) (by kernel_rfl) rfl 1 rfl (by omega)) <| Gq rfl (Lk 1 hH rfl rfl rfl) <| Gq rfl (rd_idxA (l := 2) (e := 3) (m := 1) (by kernel_rfl) (by kernel_rfl) rfl 0 rfl (by omega)) <| Gq rfl (Lk 1 hH rfl rfl rfl) <| Gw0 1 22 ((rb : Int) - (ra : Int)) ((rb - ra : Nat) : Int) <| Dn <| sw_block <| sw_seq <| sw_block <| sw_seq <| sw_block <| sw_seq <| sw_block <| sw_seq <| sw_seq <| sw_sr <| Go1 2 23 (.bool (((rb - ra : Nat) : Int) == (1 : Int))) <| Dn <| If rfl (fun hc2 => ?_) (fun hc2 => ?_)
 have hw : rb - ra = 1 := by have := hc2; omega
 refine sw_exit <| thX <| thX <| bkX rfl <| thX <| bkH <| sw_next <| sw_sr <| Gq rfl (rd_idxA (l := 2) (e := 3) (m := 1) (by kernel_rfl) (by kernel_rfl) rfl 1 rfl (by omega)) <| Gq rfl (Lk 1 hH rfl rfl rfl) <| gl_st (Sc rfl rfl (CSignW_ct rb _ (by omega)) ?_)
 rintro _ w27 ⟨rfl, hF28⟩
 replace hH := hH.call hF28
 replace hH : Hp w w27 _ _ ([_, _] ++ [_, _]) := hH.fr4.fr4
 refine gl_st (Sc rfl rfl (WriteString_ct b3 209 (Pp b3 0) v24 (([91] ++ ((runsC x).take i).flatMap runS) ++ (signC ra)) (signC rb) _ (.inr rfl) hH.mine lies_bd (by simp only [List.length_append, List.length_cons, List.length_nil]; omega)) ?_)
 rintro _ w30 ⟨v29, rfl, hF31⟩
 replace hH := hH.turns hF31
 replace hH := hH.n4
 refine Dn <| sw_exit <| bkX rfl <| thX <| bkH <| bkN <| sw_next <| sw_region <| Gw0 1 32 ((i : Int) + 1) ((i + 1 : Nat) : Int) <| Go1 1 10 (Ni (i + 1)) <| Dd <| rnd_end (g := (i, v)) (i + 1, v29) (by kernel_rfl) ?_ ?_
 replace hH := hH.fr4.fr4
 replace hH := (hH.sb (slk (slk (slk sln)))).n3
 · exact ⟨by omega, hH.cast (by rw [take_flat hq]; simp [runS, hw])⟩
 · show (runsC x).length - (i + 1) < (runsC x).length - i; omega
 have hw1 : rb - ra ≠ 1 := by have := hc2; omega
 refine Sk <| sw_sr <| Go1 2 25 (.bool (((rb - ra : Nat) : Int) == (0 : Int))) <| Dn <| If rfl (fun hc3 => ?_) (fun hc3 => ?_)
 have hw : rb - ra = 0 := by have := hc3; omega
 refine sw_exit <| thX <| bkX rfl <| thX <| bkX rfl <| thX <| bkH <| sw_next <| sw_exit <| bkH <| bkN <| sw_next <| sw_region <| Gw0 1 32 ((i : Int) + 1) ((i + 1 : Nat) : Int) <| Go1 1 10 (Ni (i + 1)) <| Dd <| rnd_end (g := (i, v)) (i + 1, v24) (by kernel_rfl) ?_ ?_
 replace hH := hH.fr4.fr4
 replace hH := (hH.sb (slk (slk (slk sln)))).n3
 · exact ⟨by omega, hH.cast (by rw [take_flat hq]; simp [runS, hw])⟩
 · show (runsC x).length - (i + 1) < (runsC x).length - i; omega
 have hw : rb - ra ≠ 1 ∧ rb - ra ≠ 0 := ⟨hw1, by have := hc3; omega⟩
 refine Sk <| sw_exit <| bkH <| sw_next <| sw_region ?_
 replace hH : Hp w w25 _ _ ([_, _] ++ [_, _]) := hH.fr4.fr4
 refine gl_st (Sc rfl rfl (WriteByte_ct b3 209 (Pp b3 0) v24 (([91] ++ ((runsC x).take i).flatMap runS) ++ (signC ra)) 45 _ (.inr rfl) hH.mine lies_bd (by omega) (by simp only [List.length_append, List.length_cons, List.length_nil]; omega)) ?_)
 rintro _ w33 ⟨v32, rfl, hF34⟩
 replace hH := hH.turns hF34
 replace hH := hH.n4
 refine Dd <| bkN <| sw_next <| sw_sr <| Gq rfl (rd_idxA (l := 2) (e := 3) (m := 1) (by kernel_rfl) (by kernel_rfl) rfl 1 rfl (by omega)) <| Gq rfl (Lk 1 hH rfl rfl rfl) <| gl_st (Sc rfl rfl (CSignW_ct rb _ (by omega)) ?_)
 rintro _ w35 ⟨rfl, hF36⟩
 replace hH := hH.call hF36
 replace hH : Hp w w35 _ _ ([_, _] ++ [_, _]) := hH.fr4.fr4
 refine gl_st (Sc rfl rfl (WriteString_ct b3 209 (Pp b3 0) v32 ((([91] ++ ((runsC x).take i).flatMap runS) ++ (signC ra)) ++ [UInt8.ofNat 45]) (signC rb) _ (.inr rfl) hH.mine lies_bd (by simp only [List.length_append, List.length_cons, List.length_nil]; omega)) ?_)
 rintro _ w38 ⟨v37, rfl, hF39⟩
 replace hH := hH.turns hF39
 replace hH := hH.n4
 refine Dn <| sw_exit <| bkX rfl <| thX <| bkH <| bkN <| sw_next <| sw_region <| Gw0 1 32 ((i : Int) + 1) ((i + 1 : Nat) : Int) <| Go1 1 10 (Ni (i + 1)) <| Dd <| rnd_end (g := (i, v)) (i + 1, v37) (by kernel_rfl) ?_ ?_
 replace hH := hH.fr4.fr4
 replace hH := (hH.sb (slk (slk (slk sln)))).n3
 · exact ⟨by omega, hH.cast (by rw [take_flat hq]; simp [runS, hw])⟩
 · show (runsC x).length - (i + 1) < (runsC x).length - i; omega
 refine sw_exit <| thX <| thX <| bkH <| sw_next <| sw_sr ?_
 replace hH : Hp w w15 _ _ ([_, _] ++ [_]) := hH
 refine gl_st (Sc rfl rfl (WriteByte_ct b3 209 (Pp b3 0) v ([91] ++ ((runsC x).take i).flatMap runS) 93 _ (.inr rfl) hH.mine lies_bd (by omega) (by have h9 := runS_flat ((runsC x).take i); rw [List.length_take] at h9; simp only [List.length_append, List.length_cons, List.length_nil]; omega)) ?_)
 rintro _ w41 ⟨v40, rfl, hF42⟩
 replace hH := hH.turns hF42
 replace hH := hH.n3
 refine Dn <| sw_sr ?_
 replace hH : Hp w w41 _ _ ([_, _] ++ [_]) := hH.fr3.fr3
 refine gl_st (Sc rfl rfl (String_ct b3 209 (Pp b3 0) v40 (([91] ++ ((runsC x).take i).flatMap runS) ++ [UInt8.ofNat 93]) _ hH.mine (.inl (by simp))) ?_)
 rintro _ w43 ⟨rfl, hF44⟩
 replace hH := hH.turns hF44
 replace hH := hH.n1
 refine Go1 1 2 (.string (bs (([91] ++ ((runsC x).take i).flatMap runS) ++ [UInt8.ofNat 93]))) <| Dn <| Rt1 rfl rfl ?_
 have hie : i = (runsC x).length := by omega
 subst hie
 exact ⟨by rw [List.take_length]; rfl, (hH.sb sln).fresh⟩
end Go.Proofs.YtllfpnbhjfadiaaGreatDoor
/- Trees of expressions (layers 4 and 5): the pure ones, and those whose slices are told. Plain mathematics. -/
set_option linter.unusedVariables false
namespace Go.Proofs.YtllfpnbhjfadiaaGreatDoor
open Go.SW Go.RowKit
inductive Nd where
  | mk (kind : Int) (text : List UInt8) (cl : Cl) (subs : List Nd) (pos : Int)
def Nd.kind : Nd → Int | .mk k _ _ _ _ => k
def Nd.text : Nd → List UInt8 | .mk _ t _ _ _ => t
def Nd.cl : Nd → Cl | .mk _ _ c _ _ => c
def Nd.subs : Nd → List Nd | .mk _ _ _ s _ => s
def Nd.pos : Nd → Int | .mk _ _ _ _ p => p
/-- A tree with its slices. -/
inductive Tv where
  | mk (kind : Int) (text : List UInt8) (cl : Cl) (A : Option Addr) (cap : Nat) (subs : List Tv) (pos : Int)
def Tv.kind : Tv → Int | .mk k _ _ _ _ _ _ => k
def Tv.text : Tv → List UInt8 | .mk _ t _ _ _ _ _ => t
def Tv.cl : Tv → Cl | .mk _ _ c _ _ _ _ => c
def Tv.A : Tv → Option Addr | .mk _ _ _ A _ _ _ => A
def Tv.cap : Tv → Nat | .mk _ _ _ _ c _ _ => c
def Tv.subs : Tv → List Tv | .mk _ _ _ _ _ s _ => s
def Tv.pos : Tv → Int | .mk _ _ _ _ _ _ p => p
mutual
def Tv.nd : Tv → Nd
  | .mk k t c _ _ s p => .mk k t c (Tv.nds s) p
def Tv.nds : List Tv → List Nd
  | [] => []
  | x :: s => Tv.nd x :: Tv.nds s
end
theorem Tv.nds_eq : ∀ s : List Tv, Tv.nds s = s.map Tv.nd
  | [] => rfl
  | x :: s => by rw [Tv.nds, Tv.nds_eq s]; rfl
mutual
def Nd.size : Nd → Nat
  | .mk _ _ _ s _ => Nd.sizes s + 1
def Nd.sizes : List Nd → Nat
  | [] => 0
  | x :: s => Nd.size x + Nd.sizes s
end
mutual
def Tv.size : Tv → Nat
  | .mk _ _ _ _ _ s _ => Tv.sizes s + 1
def Tv.sizes : List Tv → Nat
  | [] => 0
  | x :: s => Tv.size x + Tv.sizes s
end
theorem Tv.size_mem : ∀ {s : List Tv} {x : Tv}, x ∈ s → Tv.size x ≤ Tv.sizes s
  | y :: s, x, h => by
    rw [Tv.sizes]
    rcases List.mem_cons.1 h with rfl | h
    · omega
    · have := Tv.size_mem h; omega
def tvC (x : Tv) : List Value := [.int .i64 x.kind, .string (bs x.text), .int .u64 ((x.cl.a : Nat) : Int), .int .u64 ((x.cl.b : Nat) : Int), .int .u64 ((x.cl.c : Nat) : Int), .int .u64 ((x.cl.d : Nat) : Int), .slice x.A x.subs.length x.cap, .int .i64 x.pos]
theorem tvC_len (x : Tv) : (tvC x).length = 8 := rfl
/-- What is asked of a tree in a zone: its slices read. -/
inductive TvOk (c : Zone) : Tv → Prop where
  | mk {k : Int} {t : List UInt8} {cl : Cl} {A : Option Addr} {cap : Nat} {s : List Tv} {p : Int} (h1 : cl.Ok) (h2 : Row c (.slice A s.length cap) 8 s.length (rowC tvC s)) (h3 : t.length ≤ 140737488355328) (h4 : -9223372036854775808 ≤ k ∧ k ≤ 9223372036854775807) (h5 : -9223372036854775808 ≤ p ∧ p ≤ 9223372036854775807) (h6 : ∀ x ∈ s, TvOk c x) : TvOk c (.mk k t cl A cap s p)
mutual
def okNd : Nd → Bool
  | .mk k t c s _ =>
    (k == 3 || c.isZ) &&
    (if k = 5 then (nameB t && s.isEmpty) else if k = 2 then (decide (t.length ≤ 255) && s.isEmpty) else if k = 1 ∨ k = 4 ∨ k = 3 then (t.isEmpty && s.isEmpty) else if k = 6 ∨ k = 7 then (t.isEmpty && decide (1 < s.length)) else if 8 ≤ k ∧ k ≤ 12 then (t.isEmpty && decide (s.length = 1)) else false) && okNds s
def okNds : List Nd → Bool
  | [] => true
  | x :: s => okNd x && okNds s
end
def rankF (k : Int) : Nat := if k = 7 then 0 else if k = 6 then 1 else if k = 11 ∨ k = 12 then 2 else if k = 8 ∨ k = 9 ∨ k = 10 then 3 else 4
def hexB (n : Nat) : UInt8 := if n < 10 then UInt8.ofNat (48 + n) else UInt8.ofNat (87 + n)
def quoteB (c : UInt8) : List UInt8 :=
  if c = 10 then [92, 110] else if c = 13 then [92, 114] else if c = 9 then [92, 116] else if c = 39 then [92, 39] else if c = 92 then [92, 92] else
  if c < 32 ∨ 126 < c then [92, 120, hexB (c.toNat / 16), hexB (c.toNat % 16)] else [c]
def quoteL (t : List UInt8) : List UInt8 := [39] ++ t.flatMap quoteB ++ [39]
mutual
/-- An expression behind a text. -/
def exprF : Nd → List UInt8 → List UInt8
  | .mk k t c s _, acc =>
    if 8192 < acc.length then acc else
    if k = 1 then acc ++ [40, 41] else if k = 2 then acc ++ quoteL t else if k = 3 then acc ++ textC c else if k = 4 then acc ++ [46] else if k = 5 then acc ++ t else
    if k = 7 then rowF s [32, 47, 32] 1 true acc else if k = 6 then rowF s [32] 2 true acc else
    if k = 11 ∨ k = 12 then rowF s [] 3 true (acc ++ [if k = 11 then 38 else 33]) else
    rowF s [] 4 true acc ++ [if k = 8 then 63 else if k = 9 then 42 else 43]
/-- Parts in a row, what stands between them, which rank they must have. -/
def rowF : List Nd → List UInt8 → Nat → Bool → List UInt8 → List UInt8
  | [], _, _, _, acc => acc
  | x :: s, btw, least, first, acc =>
    let a1 := if first then acc else acc ++ btw
    rowF s btw least false (if least ≤ rankF x.kind then exprF x a1 else exprF x (a1 ++ [40]) ++ [41])
end
end Go.Proofs.YtllfpnbhjfadiaaGreatDoor
/- Pieces of a source (layer 3) and its tree (layer 4): what the program reads. Plain mathematics. -/
set_option linter.unusedVariables false
namespace Go.Proofs.YtllfpnbhjfadiaaGreatDoor
open Go.SW Go.RowKit
structure Tk where
  kind : Nat
  text : List UInt8
  cl : Cl
  pos : Nat
abbrev hexX : List UInt8 := [48, 49, 50, 51, 52, 53, 54, 55, 56, 57, 97, 98, 99, 100, 101, 102]
def escF (s : List UInt8) (p : Nat) : Except (Nat × Nat) (Nat × Nat) :=
  if s.length ≤ p + 1 then .error (wrongC s (p + 1)) else
  if gb s (p + 1) = 110 then .ok (10, p + 2) else if gb s (p + 1) = 114 then .ok (13, p + 2) else if gb s (p + 1) = 116 then .ok (9, p + 2) else
  if gb s (p + 1) = 92 ∨ gb s (p + 1) = 34 ∨ gb s (p + 1) = 39 then .ok (gb s (p + 1), p + 2) else
  if gb s (p + 1) = 120 then
    if pickI s (p + 2) hexX < 0 then .error (wrongC s (p + 2)) else
    if pickI s (p + 3) hexX < 0 then .error (wrongC s (p + 3)) else .ok ((16 * pickI s (p + 2) hexX + pickI s (p + 3) hexX).toNat, p + 4)
  else .error (wrongC s (p + 1))
def litF (s : List UInt8) (q p0 : Nat) : Nat → Nat → List UInt8 → Except (Nat × Nat) (List UInt8 × Nat)
  | 0, _, _ => .error (0, 0)
  | k + 1, p, acc =>
    if s.length ≤ p then .error (wrongC s p) else
    if gb s p = q then .ok (acc, p + 1) else
    match (if gb s p = 92 then escF s p else .ok (gb s p, p + 1)) with
    | .error e => .error e
    | .ok (y, e) =>
      if gb s p < 32 ∨ 126 < gb s p then .error (wrongC s p) else
      if acc.length = 255 then .error (2, p0) else litF s q p0 k e (acc ++ [UInt8.ofNat y])
abbrev signX : List UInt8 := [47, 38, 33, 63, 42, 43, 40, 41, 46]
def tokenF (s : List UInt8) (p : Nat) : Except (Nat × Nat) (Tk × Nat) :=
  if 32 < nameN (s.drop p) then .error (2, p) else
  if 0 < nameN (s.drop p) then .ok (⟨1, (s.drop p).take (nameN (s.drop p)), Cl.zero, p⟩, p + nameN (s.drop p)) else
  if 0 ≤ Lib.indexByte signX (UInt8.ofNat (gb s p)) then .ok (⟨5, [UInt8.ofNat (gb s p)], Cl.zero, p⟩, p + 1) else
  if Lib.hasPrefix (s.drop p) [60, 45] = true then .ok (⟨2, [], Cl.zero, p⟩, p + 2) else
  if gb s p = 39 ∨ gb s p = 34 then
    match litF s (gb s p) p (s.length + 1) (p + 1) [] with
    | .error e => .error e
    | .ok (t, e) => .ok (⟨3, t, Cl.zero, p⟩, e)
  else
  if gb s p = 91 then
    match parseC (s.drop p) with
    | .error (c, a) => .error (c, p + a)
    | .ok (c, u) => .ok (⟨4, [], c, p⟩, p + u)
  else .error (4, p)
def toksF (s : List UInt8) : Nat → Nat → List Tk → Except (Nat × Nat) (List Tk)
  | 0, _, _ => .error (0, 0)
  | k + 1, p, acc =>
    if s.length ≤ p then .ok (acc ++ [⟨6, [], Cl.zero, p⟩]) else
    if gb s p = 35 then (if 0 ≤ Lib.indexByte (s.drop p) (UInt8.ofNat 10) then toksF s k (p + (Lib.indexByte (s.drop p) (UInt8.ofNat 10)).toNat) acc else toksF s k s.length acc) else
    if gb s p = 9 ∨ gb s p = 10 ∨ gb s p = 13 ∨ gb s p = 32 then toksF s k (p + 1) acc else
    match tokenF s p with
    | .error e => .error e
    | .ok (t, e) => toksF s k e (acc ++ [t])
def tokensF (s : List UInt8) : Except (Nat × Int) (List Tk) :=
  if 8192 < s.length then .error (2, -1) else
  match toksF s (s.length + 1) 0 [] with
  | .error (c, a) => .error (c, a)
  | .ok l => .ok l
abbrev Er := Nat × Int
def tk0 : Tk := ⟨6, [], Cl.zero, 0⟩
def hdT (l : List Tk) : Tk := l.headD tk0
def stopF (c : Nat) (l : List Tk) : Er := (c, (hdT l).pos)
def wrongF (l : List Tk) : Er := if (hdT l).kind = 6 then stopF 3 l else stopF 4 l
def sgF4 (l : List Tk) : List UInt8 := if (hdT l).kind = 5 then (hdT l).text else []
def joinF (k : Int) (l : List Nd) : Nd :=
  match l with
  | [x] => x
  | l => .mk k [] Cl.zero l ((l.head?.map Nd.pos).getD 0)
mutual
def choiceF : Nat → Nat → List Tk → Except Er (Nd × List Tk)
  | 0, _, _ => .error (0, 0)
  | k + 1, deep, l => (rowF4 k deep l).bind fun (n, l2) => altF k deep [n] l2
def altF : Nat → Nat → List Nd → List Tk → Except Er (Nd × List Tk)
  | 0, _, _, _ => .error (0, 0)
  | k + 1, deep, acc, l => if sgF4 l = [47] then (rowF4 k deep l.tail).bind fun (n, l2) => altF k deep (acc ++ [n]) l2 else .ok (joinF 7 acc, l)
def rowF4 : Nat → Nat → List Tk → Except Er (Nd × List Tk)
  | 0, _, _ => .error (0, 0)
  | k + 1, deep, l => (partsF4 k deep [] l).bind fun (acc, l2) => .ok (if acc.isEmpty then .mk 1 [] Cl.zero [] (hdT l2).pos else joinF 6 acc, l2)
def partsF4 : Nat → Nat → List Nd → List Tk → Except Er (List Nd × List Tk)
  | 0, _, _, _ => .error (0, 0)
  | k + 1, deep, acc, l => (partF4 k deep l).bind fun
    | (none, l2) => .ok (acc, l2)
    | (some n, l2) => partsF4 k deep (acc ++ [n]) l2
def partF4 : Nat → Nat → List Tk → Except Er (Option Nd × List Tk)
  | 0, _, _ => .error (0, 0)
  | k + 1, deep, l =>
    let kd : Int := if sgF4 l = [38] then 11 else if sgF4 l = [33] then 12 else 0
    let l1 := if kd = 0 then l else l.tail
    (oneF4 k deep l1).bind fun
      | (none, l2) => if kd = 0 then .ok (none, l2) else .error (wrongF l2)
      | (some n, l2) =>
        let s2 := sgF4 l2
        let q : Nd × List Tk := if s2 = [43] then (.mk 10 [] Cl.zero [n] n.pos, l2.tail) else if s2 = [42] then (.mk 9 [] Cl.zero [n] n.pos, l2.tail) else if s2 = [63] then (.mk 8 [] Cl.zero [n] n.pos, l2.tail) else (n, l2)
        .ok (some (if kd = 0 then q.1 else .mk kd [] Cl.zero [q.1] (hdT l).pos), q.2)
def oneF4 : Nat → Nat → List Tk → Except Er (Option Nd × List Tk)
  | 0, _, _ => .error (0, 0)
  | k + 1, deep, l =>
    let t := hdT l
    if t.kind = 1 then (if (hdT l.tail).kind = 2 then .ok (none, l) else .ok (some (.mk 5 t.text t.cl [] t.pos), l.tail)) else
    if t.kind = 3 then .ok (some (.mk 2 t.text t.cl [] t.pos), l.tail) else
    if t.kind = 4 then .ok (some (.mk 3 t.text t.cl [] t.pos), l.tail) else
    if t.kind = 5 then
      if t.text = [46] then .ok (some (.mk 4 [] t.cl [] t.pos), l.tail) else
      if t.text = [40] then (withinF k deep l).bind fun (n, l2) => .ok (some n, l2) else .ok (none, l)
    else .ok (none, l)
def withinF : Nat → Nat → List Tk → Except Er (Nd × List Tk)
  | 0, _, _ => .error (0, 0)
  | k + 1, deep, l =>
    if deep = 24 then .error (stopF 2 l) else
    (choiceF k (deep + 1) l.tail).bind fun (n, l2) => if sgF4 l2 = [41] then .ok (n, l2.tail) else .error (wrongF l2)
end
/-- A rule: its name, its body, its place. -/
structure Rl where
  name : List UInt8
  body : Nd
  pos : Int
def mustF (k : Nat) (l : List Tk) : Except Er (Tk × List Tk) := if (hdT l).kind = k then .ok (hdT l, l.tail) else .error (wrongF l)
def rulesF (F : Nat) : Nat → List Rl → List Tk → Except Er (List Rl)
  | 0, _, _ => .error (0, 0)
  | k + 1, acc, l =>
    if acc.length ≠ 0 ∧ (hdT l).kind = 6 then .ok acc else
    if acc.length = 64 ∧ (hdT l).kind = 1 then .error (stopF 2 l) else
    (mustF 1 l).bind fun (t, l1) => (mustF 2 l1).bind fun (_, l2) => (choiceF F 0 l2).bind fun (n, l3) => rulesF F k (acc ++ [⟨t.text, n, t.pos⟩]) l3
def parseF (s : List UInt8) : Except Er (List Rl) := (tokensF s).bind fun l => rulesF (8 * l.length + 8) (l.length + 1) [] l
end Go.Proofs.YtllfpnbhjfadiaaGreatDoor
/- Layer 3 (lex): faults, tokens laid: what the program's functions answer. -/
set_option maxRecDepth 100000
set_option maxHeartbeats 2000000
set_option linter.unusedVariables false
set_option linter.unusedSimpArgs false
namespace Go.Proofs.YtllfpnbhjfadiaaGreatDoor
open Go.RowKit Go.SW
def tkC (t : Tk) : List Value := [.int .i64 ((t.kind : Nat) : Int), .string (bs t.text), .int .u64 ((t.cl.a : Nat) : Int), .int .u64 ((t.cl.b : Nat) : Int), .int .u64 ((t.cl.c : Nat) : Int), .int .u64 ((t.cl.d : Nat) : Int), .int .i64 ((t.pos : Nat) : Int)]
theorem tkC_len (t : Tk) : (tkC t).length = 7 := rfl
abbrev cutO (g : Nat) (s : List UInt8) (p : Nat) (v : Value) : Own := .blk g 190 [.string (bs s), .int .i64 ((p : Nat) : Int), v]
abbrev tksO (v : Value) (l : List Tk) : Own := .row v 131 7 l.length (rowC tkC l)

theorem LFault_ct (c : Nat) (a : Int) (w : World) :
    Fun Tryz.prog 100 [.int .i64 ((c : Nat) : Int), .int .i64 a] w fun v w' => ∃ fb, v = .iface 94 (.pointer (some ⟨fb, 0, none⟩)) ∧ Fresh w w' [.blk fb 97 [.int .i64 ((c : Nat) : Int), .int .i64 a]] := by
 refine fun_of_sw Tryz.func100 rfl 10 rfl rfl ?_
 have hH := Hp.start w
 refine sw_sr <| Go0 1 <| Dn <| sw_sr <| Go1 3 7 (.agg #[Ni c, .int .i64 a]) <| gl_st (Bx [Ni c, .int .i64 a] rfl hH ?_)
 clear hH; intro b1 w2 hH
 refine Go1 2 4 (.iface 94 (Pp b1 0)) <| Dn <| Rt1 rfl rfl ?_
 exact ⟨_, rfl, (hH.sb (slk sln)).fresh⟩
theorem LWrong_ct (g p : Nat) (s : List UInt8) (w : World) (h0 : w.cell? ⟨g, 0, none⟩ = some (.string (bs s))) (hs : s.length ≤ 140737488355328) :
    Fun Tryz.prog 168 [.pointer (some ⟨g, 0, none⟩), .int .i64 ((p : Nat) : Int)] w fun v w' => ∃ fb, v = .iface 94 (.pointer (some ⟨fb, 0, none⟩)) ∧ Fresh w w' [.blk fb 97 [.int .i64 (((wrongC s p).1 : Nat) : Int), .int .i64 (((wrongC s p).2 : Nat) : Int)]] := by
 refine fun_of_sw Tryz.func168 rfl 20 rfl rfl ?_
 have hH := Hp.start w
 refine sw_sr <| Go0 1 <| Dn <| sw_seq <| sw_sr <| Go2 4 5 (Ni p) 8 (.pointer (some ⟨g, 0, none⟩)) <| Gq rfl (rd_load (by kernel_rfl) rfl (hH.zin _ _ h0)) <| Gc0 1 10 (.int .i64 (((bs s).size : Nat) : Int)) (Ni s.length) (by rw [bs_size]) <| Go1 1 11 (.bool (decide ((p : Int) ≥ ((s.length : Nat) : Int)))) <| Dn <| If rfl (fun hc1 => ?_) (fun hc1 => ?_)
 have hw : wrongC s p = (3, s.length) := if_pos (by omega)
 refine sw_sr <| Go1 3 14 (.pointer (some ⟨g, 0, none⟩)) <| Gq rfl (rd_load (by kernel_rfl) rfl (hH.zin _ _ h0)) <| Gc0 1 16 (.int .i64 (((bs s).size : Nat) : Int)) (Ni s.length) (by rw [bs_size]) <| gl_st (Sc rfl rfl (LFault_ct 3 ((s.length : Nat) : Int) _) ?_)
 rintro _ w2 ⟨fb1, rfl, hF3⟩
 replace hH := hH.call hF3
 refine Go1 1 4 (.iface 94 (Pp fb1 0)) <| Dn <| Rt1 rfl rfl ?_
 rw [hw]
 exact ⟨_, rfl, (hH.sb (slk sln)).fresh⟩
 have hw : wrongC s p = (4, p) := if_neg (by omega)
 refine Sk <| sw_sr <| Go1 1 18 (Ni p) <| gl_st (Sc rfl rfl (LFault_ct 4 (p : Int) _) ?_)
 rintro _ w5 ⟨fb4, rfl, hF6⟩
 replace hH := hH.call hF6
 refine Go1 1 4 (.iface 94 (Pp fb4 0)) <| Dn <| Rt1 rfl rfl ?_
 rw [hw]
 exact ⟨_, rfl, (hH.sb (slk sln)).fresh⟩
theorem LAdd_ct (g p q : Nat) (s : List UInt8) (v : Value) (l : List Tk) (t : Tk) (z : Int) (w : World) (hM : Mine w [cutO g s p v, tksO v l]) (hn : l.length ≤ 8193) :
    Fun Tryz.prog 103 [Pp g 0, .agg #[.int .i64 ((t.kind : Nat) : Int), .string (bs t.text), .int .u64 ((t.cl.a : Nat) : Int), .int .u64 ((t.cl.b : Nat) : Int), .int .u64 ((t.cl.c : Nat) : Int), .int .u64 ((t.cl.d : Nat) : Int), .int .i64 z], .int .i64 ((q : Nat) : Int)] w fun x w' => ∃ v1, x = .tuple #[] ∧ Turn w w' [cutO g s p v, tksO v l] [cutO g s q v1, tksO v1 (l ++ [⟨t.kind, t.text, t.cl, p⟩])] := by
 refine fun_of_sw Tryz.func103 rfl 25 rfl rfl ?_
 have hH := Hp.start_mine hM
 refine sw_sr <| gl_st (Bx [Ni t.kind, .string (bs t.text), .int .u64 ((t.cl.a : Nat) : Int), .int .u64 ((t.cl.b : Nat) : Int), .int .u64 ((t.cl.c : Nat) : Int), .int .u64 ((t.cl.d : Nat) : Int), .int .i64 z] rfl hH ?_)
 clear hH; intro b1 w2 hH
 refine Dn <| sw_sr <| Go1 3 8 (Pp g 1) <| Gq rfl (Lk 0 hH rfl rfl rfl) <| Go1 1 10 (Pp b1 6) <| gl_st (Ks 2 (Ni p) rfl hH rfl rfl ?_)
 clear hH; intro w3 hH
 refine Dn <| sw_seq <| Dr hH (slc (slc (slk sln))) ?_
 clear hH; intro w4 hH hS9
 refine Gp2 4 [0,1,2,3] 11 (Pp g 0) 14 (Pp g 2) hS9 <| Dq 5 rfl (fun _ hS => (La 0 [Ni t.kind, .string (bs t.text), .int .u64 ((t.cl.a : Nat) : Int), .int .u64 ((t.cl.b : Nat) : Int), .int .u64 ((t.cl.c : Nat) : Int), .int .u64 ((t.cl.d : Nat) : Int), Ni p] hS rfl rfl)) hS9 <| gd_st2 4 6 (by kernel_rfl) ?_ ?_
 refine st_q rfl rfl rfl (Lk 0 hH rfl rfl rfl) <| Nl hS9 fun hS9 => gdk [(0, Pp g 0), (2, Ni q), (11, Pp g 0), (15, v), (16, .agg #[Ni t.kind, .string (bs t.text), .int .u64 ((t.cl.a : Nat) : Int), .int .u64 ((t.cl.b : Nat) : Int), .int .u64 ((t.cl.c : Nat) : Int), .int .u64 ((t.cl.d : Nat) : Int), Ni p])] <| gds 6 (st_buildS (e := 131) (zv := .agg #[.int .i64 0, .string (bs []), .int .u64 0, .int .u64 0, .int .u64 0, .int .u64 0, .int .i64 0]) (m := 7) (bytes := 64) rfl rfl rfl (by kernel_rfl) (by kernel_rfl) rfl (cs := [Ni t.kind, .string (bs t.text), .int .u64 ((t.cl.a : Nat) : Int), .int .u64 ((t.cl.b : Nat) : Int), .int .u64 ((t.cl.c : Nat) : Int), .int .u64 ((t.cl.d : Nat) : Int), Ni p]) (by kernel_rfl) rfl hH ?_)
 clear hH; intro b5 w6 hH
 refine Nl (hH.sb (slc (slc (slk sln)))) fun hS9 => gds 7 (Apd (e := 131) (.agg #[.int .i64 0, .string (bs []), .int .u64 0, .int .u64 0, .int .u64 0, .int .u64 0, .int .i64 0]) 7 64 1 rfl hH rfl rfl rfl (hH.row_reads 3 rfl) (by simp [Value.oneCell']) (by unfold maxLen; omega) (by omega) ?_)
 clear hH; intro v7 w8 hH
 replace hH := hH.row_eq 1 (l' := (l ++ [(⟨t.kind, t.text, t.cl, p⟩ : Tk)]).length) (xs' := rowC tkC (l ++ [(⟨t.kind, t.text, t.cl, p⟩ : Tk)])) rfl (by simp) (by rw [← rowC_app, rowC_one]; rfl)
 obtain ⟨A9, c10, rfl, hl11, hm12⟩ := hH.row_form 1 rfl
 refine Nl (hH.sb (slc (slc (slk sln)))) fun hS9 => Gp1 2 [8,9] 20 (Pp g 2) hS9 <| gds 10 (Ks 0 (.slice A9 ((l ++ [(⟨t.kind, t.text, t.cl, p⟩ : Tk)]).length) c10) rfl hH rfl rfl ?_)
 clear hH; intro w13 hH
 refine Nl (hH.sb (slc (slc (slk sln)))) fun hS9 => gdn [(0, Pp g 0), (2, Ni q)] <| sw_next <| sw_region <| Go2 4 22 (Ni q) 24 (Pp g 1) <| gl_st (Ks 0 (Ni q) rfl hH rfl rfl ?_)
 clear hH; intro w14 hH
 refine Dd <| end0 rfl ?_
 exact ⟨_, rfl, (hH.sb (slk (slk sln))).turned⟩
 refine st_buildS (e := 131) (zv := .agg #[.int .i64 0, .string (bs []), .int .u64 0, .int .u64 0, .int .u64 0, .int .u64 0, .int .i64 0]) (m := 7) (bytes := 64) rfl rfl rfl (by kernel_rfl) (by kernel_rfl) rfl (cs := [Ni t.kind, .string (bs t.text), .int .u64 ((t.cl.a : Nat) : Int), .int .u64 ((t.cl.b : Nat) : Int), .int .u64 ((t.cl.c : Nat) : Int), .int .u64 ((t.cl.d : Nat) : Int), Ni p]) (by kernel_rfl) rfl hH ?_
 clear hH; intro b15 w16 hH
 refine Nl (hH.sb (slc (slc (slk sln)))) fun hS9 => gdk [(0, Pp g 0), (2, Ni q), (11, Pp g 0), (14, Pp g 2), (17, .slice (some ⟨b15, 0, none⟩) 1 1)] <| gds 4 (st_q rfl rfl rfl (Lk 0 hH rfl rfl rfl) ?_)
 refine Nl hS9 fun hS9 => gds 7 (Apd (e := 131) (.agg #[.int .i64 0, .string (bs []), .int .u64 0, .int .u64 0, .int .u64 0, .int .u64 0, .int .i64 0]) 7 64 1 rfl hH rfl rfl rfl (hH.row_reads 3 rfl) (by simp [Value.oneCell']) (by unfold maxLen; omega) (by omega) ?_)
 clear hH; intro v17 w18 hH
 replace hH := hH.row_eq 1 (l' := (l ++ [(⟨t.kind, t.text, t.cl, p⟩ : Tk)]).length) (xs' := rowC tkC (l ++ [(⟨t.kind, t.text, t.cl, p⟩ : Tk)])) rfl (by simp) (by rw [← rowC_app, rowC_one]; rfl)
 obtain ⟨A19, c20, rfl, hl21, hm22⟩ := hH.row_form 1 rfl
 refine Nl (hH.sb (slc (slc (slk sln)))) fun hS9 => Gp1 2 [8,9] 20 (Pp g 2) hS9 <| gds 10 (Ks 0 (.slice A19 ((l ++ [(⟨t.kind, t.text, t.cl, p⟩ : Tk)]).length) c20) rfl hH rfl rfl ?_)
 clear hH; intro w23 hH
 refine Nl (hH.sb (slc (slc (slk sln)))) fun hS9 => gdn [(0, Pp g 0), (2, Ni q)] <| sw_next <| sw_region <| Go2 4 22 (Ni q) 24 (Pp g 1) <| gl_st (Ks 0 (Ni q) rfl hH rfl rfl ?_)
 clear hH; intro w24 hH
 refine Dd <| end0 rfl ?_
 exact ⟨_, rfl, (hH.sb (slk (slk sln))).turned⟩
theorem cv_or4_i64 {a b : Nat} (ha : a < 16) (hb : b < 16) : Value.int .i64 (IntKind.i64.wrap (((BitVec.ofInt 64 ((a * 16 : Nat) : Int) ||| BitVec.ofInt 64 (b : Int)).toNat : Nat) : Int)) = .int .i64 ((16 * a + b : Nat) : Int) := by
  rw [BitVec.toNat_or, bv64 (by omega), bv64 (by omega)]
  have h := Nat.two_pow_add_eq_or_of_lt (i := 4) (b := b) hb a
  rw [show a * 16 = 2 ^ 4 * a from by omega, ← h]
  exact cv_i64 (by omega)
def EsPost (s : List UInt8) (p : Nat) (R : Except (Nat × Nat) (Nat × Nat)) (w : World) (v : Value) (w' : World) : Prop :=
  ∃ y e fb, v = .tuple #[.int .u8 ((y : Nat) : Int), .int .i64 ((e : Nat) : Int), fltV (erOf R) fb] ∧ ((∃ er, R = .error er) ∨ (R = .ok (y, e) ∧ y < 256 ∧ p + 2 ≤ e ∧ e ≤ s.length)) ∧ Fresh w w' [fltO (erOf R) fb]
theorem es_err {s : List UInt8} {p fb : Nat} {R : Except (Nat × Nat) (Nat × Nat)} {er : Nat × Nat} {w w' : World} (hR : R = .error er) (h : Hp w w' w.cell? [] [.blk fb 97 [.int .i64 ((er.1 : Nat) : Int), .int .i64 ((er.2 : Nat) : Int)]]) : EsPost s p R w (.tuple #[.int .u8 0, .int .i64 0, .iface 94 (.pointer (some ⟨fb, 0, none⟩))]) w' := by
  subst hR
  exact ⟨0, 0, fb, rfl, .inl ⟨er, rfl⟩, (flt_some (c := er.1) (a := ((er.2 : Nat) : Int)) h).fresh⟩
theorem es_ok {s : List UInt8} {p y e : Nat} {R : Except (Nat × Nat) (Nat × Nat)} {w w' : World} (hR : R = .ok (y, e)) (h1 : y < 256) (h2 : p + 2 ≤ e) (h3 : e ≤ s.length) (h : Hp w w' w.cell? [] []) : EsPost s p R w (.tuple #[.int .u8 ((y : Nat) : Int), .int .i64 ((e : Nat) : Int), .nilIface]) w' := by
  subst hR
  exact ⟨y, e, 0, rfl, .inr ⟨rfl, h1, h2, h3⟩, (flt_none 0 h).fresh⟩

theorem LEscape_ct (g p : Nat) (s : List UInt8) (w : World) (h0 : w.cell? ⟨g, 0, none⟩ = some (.string (bs s))) (hs : s.length ≤ 140737488355328) (hp : p ≤ s.length) :
    Fun Tryz.prog 169 [.pointer (some ⟨g, 0, none⟩), .int .i64 ((p : Nat) : Int)] w fun v w' => EsPost s p (escF s p) w v w' := by
 refine fun_of_sw Tryz.func169 rfl 91 rfl rfl ?_
 have hH := Hp.start w
 have hgb := gb_lt s (p + 1)
 refine sw_sr <| Go0 3 <| Dn <| sw_seq <| sw_sr <| Gw0 2 11 ((p : Int) + 1) ((p + 1 : Nat) : Int) <| Go1 3 14 (.pointer (some ⟨g, 0, none⟩)) <| Gq rfl (rd_load (by kernel_rfl) rfl (hH.zin _ _ h0)) <| Gc0 1 16 (.int .i64 (((bs s).size : Nat) : Int)) (Ni s.length) (by rw [bs_size]) <| Go1 1 17 (.bool (decide (((p + 1 : Nat) : Int) ≥ ((s.length : Nat) : Int)))) <| Dn <| If rfl (fun hc1 => ?_) (fun hc1 => ?_)
 have hq := hc1
 refine sw_sr <| Gw1 3 20 ((p : Int) + 1) ((p + 1 : Nat) : Int) 18 (.pointer (some ⟨g, 0, none⟩)) <| gl_st (Sc rfl rfl (LWrong_ct g (p + 1) s _ (hH.zin _ _ h0) hs) ?_)
 rintro _ w2 ⟨fb1, rfl, hF3⟩
 replace hH := hH.call hF3
 exact Go3 3 4 (.int .u8 0) 5 (.int .i64 0) 6 (.iface 94 (Pp fb1 0)) <| Dn <| Rt3 rfl rfl rfl rfl <| es_err (by unfold escF; rw [if_pos (by omega)]) (hH.sb (slk sln))
 have hq := hc1
 refine Sk <| sw_sr <| Go1 3 24 (.pointer (some ⟨g, 0, none⟩)) <| Gq rfl (rd_load (by kernel_rfl) rfl (hH.zin _ _ h0)) <| Gw0 2 27 ((p : Int) + 1) ((p + 1 : Nat) : Int) <| Gq rfl (rd_sidx (by kernel_rfl) rfl (p + 1) rfl (by omega)) <| Go1 1 7 (.int .u8 ((gb s (p + 1) : Nat) : Int)) <| Dn <| sw_seq <| sw_sr <| Go1 1 29 (.int .u8 ((gb s (p + 1) : Nat) : Int)) <| Dn <| sw_block <| sw_sr <| Go1 2 34 (.bool (((gb s (p + 1) : Nat) : Int) == (110 : Int))) <| Dn <| If rfl (fun hc2 => ?_) (fun hc2 => ?_)
 have hq2 := hc2
 exact sw_region <| Go1 1 7 (.int .u8 10) <| Dd <| bkN <| sw_next <| sw_sr <| Gw1 3 90 ((p : Int) + 2) ((p + 2 : Nat) : Int) 88 (.int .u8 10) <| Go3 3 4 (.int .u8 10) 5 (Ni (p + 2)) 6 (.nilIface) <| Dn <| Rt3 rfl rfl rfl rfl <| es_ok (y := 10) (by unfold escF; rw [if_neg (by omega), if_pos (by omega)]) (by omega) (by omega) (by omega) (hH.sb sln)
 have hq2 := hc2
 refine sw_sr <| Go1 2 36 (.bool (((gb s (p + 1) : Nat) : Int) == (114 : Int))) <| Dn <| If rfl (fun hc3 => ?_) (fun hc3 => ?_)
 have hq3 := hc3
 exact sw_region <| Go1 1 7 (.int .u8 13) <| Dd <| bkN <| sw_next <| sw_sr <| Gw1 3 90 ((p : Int) + 2) ((p + 2 : Nat) : Int) 88 (.int .u8 13) <| Go3 3 4 (.int .u8 13) 5 (Ni (p + 2)) 6 (.nilIface) <| Dn <| Rt3 rfl rfl rfl rfl <| es_ok (y := 13) (by unfold escF; rw [if_neg (by omega), if_neg (by omega), if_pos (by omega)]) (by omega) (by omega) (by omega) (hH.sb sln)
 have hq3 := hc3
 refine sw_sr <| Go1 2 38 (.bool (((gb s (p + 1) : Nat) : Int) == (116 : Int))) <| Dn <| If rfl (fun hc4 => ?_) (fun hc4 => ?_)
 have hq4 := hc4
 exact sw_region <| Go1 1 7 (.int .u8 9) <| Dd <| bkN <| sw_next <| sw_sr <| Gw1 3 90 ((p : Int) + 2) ((p + 2 : Nat) : Int) 88 (.int .u8 9) <| Go3 3 4 (.int .u8 9) 5 (Ni (p + 2)) 6 (.nilIface) <| Dn <| Rt3 rfl rfl rfl rfl <| es_ok (y := 9) (by unfold escF; rw [if_neg (by omega), if_neg (by omega), if_neg (by omega), if_pos (by omega)]) (by omega) (by omega) (by omega) (hH.sb sln)
 have hq4 := hc4
 refine sw_seq <| sw_sr <| Go1 2 40 (.bool (((gb s (p + 1) : Nat) : Int) == (92 : Int))) <| Dn <| If rfl (fun hc5 => ?_) (fun hc5 => ?_)
 have hq5 := hc5
 refine Sk <| If rfl (fun hc6 => ?_) (fun hc6 => ?_)
 have hq6 := hc6
 exact sw_skip <| bkN <| sw_next <| sw_sr <| Gw1 3 90 ((p : Int) + 2) ((p + 2 : Nat) : Int) 88 (.int .u8 ((gb s (p + 1) : Nat) : Int)) <| Go3 3 4 (.int .u8 ((gb s (p + 1) : Nat) : Int)) 5 (Ni (p + 2)) 6 (.nilIface) <| Dn <| Rt3 rfl rfl rfl rfl <| es_ok (y := gb s (p + 1)) (by unfold escF; rw [if_neg (by omega), if_neg (by omega), if_neg (by omega), if_neg (by omega), if_pos (by omega)]) (by omega) (by omega) (by omega) (hH.sb sln)
 have hq6 := hc6
 refine sw_sr <| Go1 2 44 (.bool (((gb s (p + 1) : Nat) : Int) == (120 : Int))) <| Dn <| If rfl (fun hc7 => ?_) (fun hc7 => ?_)
 have hq7 := hc7
 refine sw_sr <| Go1 1 8 (.int .i64 0) <| Dn <| sw_seq <| sw_sr <| Gw0 2 47 ((p : Int) + 2) ((p + 2 : Nat) : Int) <| Go1 1 9 (Ni (p + 2)) <| Dn <| sw_block <| sw_unroll <| sw_seq <| sw_sr <| Gw1 3 50 ((p : Int) + 4) ((p + 4 : Nat) : Int) 48 (Ni (p + 2)) <| Go1 1 51 (.bool (decide (((p + 2 : Nat) : Int) < ((p + 4 : Nat) : Int)))) <| Dn <| If rfl (fun hc8 => ?_) (fun hc8 => absurd hc8 (by omega))
 clear hc8
 refine Sk <| sw_seq <| sw_block <| sw_seq <| sw_sr <| Go2 4 54 (Ni (p + 2)) 57 (.pointer (some ⟨g, 0, none⟩)) <| Gq rfl (rd_load (by kernel_rfl) rfl (hH.zin _ _ h0)) <| Gc0 1 59 (.int .i64 (((bs s).size : Nat) : Int)) (Ni s.length) (by rw [bs_size]) <| glo 2 [(0, .pointer (some ⟨g, 0, none⟩)), (1, Ni p), (8, .int .i64 0), (9, Ni (p + 2)), (61, .bool (decide (((p + 2 : Nat) : Int) ≥ ((s.length : Nat) : Int))))] <| Gi 61 rfl (fun hg9 => ?_) (fun hg9 => ?_)
 have hno : pickI s (p + 2) hexX < 0 := by rw [pickI_none _ (by omega)]; omega
 refine Go1 9 70 (.bool true) <| Dn <| It <| sw_sr <| Go2 2 71 (.pointer (some ⟨g, 0, none⟩)) 72 (Ni (p + 2)) <| gl_st (Sc rfl rfl (LWrong_ct g (p + 2) s _ (hH.zin _ _ h0) hs) ?_)
 rintro _ w5 ⟨fb4, rfl, hF6⟩
 replace hH := hH.call hF6
 exact Go3 3 4 (.int .u8 0) 5 (.int .i64 0) 6 (.iface 94 (Pp fb4 0)) <| Dn <| Rt3 rfl rfl rfl rfl <| es_err (by unfold escF; rw [if_neg (by omega), if_neg (by omega), if_neg (by omega), if_neg (by omega), if_neg (by omega), if_pos (by omega), if_pos hno]) (hH.sb (slk sln))
 have hin2 : p + 2 < s.length := by omega
 refine Go1 3 64 (.pointer (some ⟨g, 0, none⟩)) <| Gq rfl (rd_load (by kernel_rfl) rfl (hH.zin _ _ h0)) <| Go1 1 66 (Ni (p + 2)) <| Gq rfl (rd_sidx (by kernel_rfl) rfl (p + 2) rfl (by omega)) <| gl_st (Sc rfl rfl (IndexByte_ct [48, 49, 50, 51, 52, 53, 54, 55, 56, 57, 97, 98, 99, 100, 101, 102] (gb s (p + 2)) _) ?_)
 rintro _ w7 ⟨rfl, hF8⟩
 replace hH := hH.call hF8
 refine Go1 2 70 (.bool (decide ((Lib.indexByte [48, 49, 50, 51, 52, 53, 54, 55, 56, 57, 97, 98, 99, 100, 101, 102] (UInt8.ofNat (gb s (p + 2)))) < (0 : Int)))) <| Dn <| If rfl (fun hc11 => ?_) (fun hc11 => ?_)
 have hno : pickI s (p + 2) hexX < 0 := by rw [pickI_some _ (by omega)]; exact hc11
 refine sw_sr <| Go2 2 71 (.pointer (some ⟨g, 0, none⟩)) 72 (Ni (p + 2)) <| gl_st (Sc rfl rfl (LWrong_ct g (p + 2) s _ (hH.zin _ _ h0) hs) ?_)
 rintro _ w10 ⟨fb9, rfl, hF11⟩
 replace hH := hH.call hF11
 exact Go3 3 4 (.int .u8 0) 5 (.int .i64 0) 6 (.iface 94 (Pp fb9 0)) <| Dn <| Rt3 rfl rfl rfl rfl <| es_err (by unfold escF; rw [if_neg (by omega), if_neg (by omega), if_neg (by omega), if_neg (by omega), if_neg (by omega), if_pos (by omega), if_pos hno]) (hH.sb (slk sln))
 have hyes2 : 0 ≤ Lib.indexByte [48, 49, 50, 51, 52, 53, 54, 55, 56, 57, 97, 98, 99, 100, 101, 102] (UInt8.ofNat (gb s (p + 2))) := by have := hc11; omega
 refine Sk <| sw_region <| Gw0 2 75 (0 * 2 ^ 4) ((0 * 16 : Nat) : Int) <| Go1 3 78 (.pointer (some ⟨g, 0, none⟩)) <| Gq rfl (rd_load (by kernel_rfl) rfl (hH.zin _ _ h0)) <| Go1 1 80 (Ni (p + 2)) <| Gq rfl (rd_sidx (by kernel_rfl) rfl (p + 2) rfl (by omega)) <| gl_st (Sc rfl rfl (IndexByte_ct [48, 49, 50, 51, 52, 53, 54, 55, 56, 57, 97, 98, 99, 100, 101, 102] (gb s (p + 2)) _) ?_)
 rintro _ w12 ⟨rfl, hF13⟩
 replace hH := hH.call hF13
 obtain ⟨i2, hi2⟩ : ∃ i : Nat, Lib.indexByte [48, 49, 50, 51, 52, 53, 54, 55, 56, 57, 97, 98, 99, 100, 101, 102] (UInt8.ofNat (gb s (p + 2))) = i := ⟨(Lib.indexByte [48, 49, 50, 51, 52, 53, 54, 55, 56, 57, 97, 98, 99, 100, 101, 102] (UInt8.ofNat (gb s (p + 2)))).toNat, by omega⟩
 have hl2 : i2 < 16 := by have h9 := (idx_lt [48, 49, 50, 51, 52, 53, 54, 55, 56, 57, 97, 98, 99, 100, 101, 102] (UInt8.ofNat (gb s (p + 2)))).2; simp only [List.length_cons, List.length_nil] at h9; omega
 have hpk2 : pickI s (p + 2) hexX = i2 := by rw [pickI_some _ (by omega)]; exact hi2
 refine gl_cv 82 (Ni i2) (by rw [hi2]) rfl <| Gc0 1 83 (.int .i64 (IntKind.i64.wrap (((BitVec.ofInt 64 ((0 * 16 : Nat) : Int) ||| BitVec.ofInt 64 (i2 : Int)).toNat : Nat) : Int))) (Ni (16 * 0 + i2)) (cv_or4_i64 (a := 0) (b := i2) (by omega) (by omega)) <| Go1 1 8 (Ni (16 * 0 + i2)) <| gl_cv 8 (Ni i2) (by rw [show 16 * 0 + i2 = i2 from by omega]) rfl <| Dd <| bkN <| sw_next <| sw_region <| Gw0 2 53 (((p + 2 : Nat) : Int) + 1) ((p + 3 : Nat) : Int) <| Go1 1 9 (Ni (p + 3)) <| Dd <| sw_again <| swk [(0, .pointer (some ⟨g, 0, none⟩)), (1, Ni p), (8, Ni i2), (9, Ni (p + 3))] <| sw_seq <| sw_sr <| Gw1 3 50 ((p : Int) + 4) ((p + 4 : Nat) : Int) 48 (Ni (p + 3)) <| Go1 1 51 (.bool (decide (((p + 3 : Nat) : Int) < ((p + 4 : Nat) : Int)))) <| Dn <| If rfl (fun hc12 => ?_) (fun hc12 => absurd hc12 (by omega))
 clear hc12
 refine Sk <| sw_seq <| sw_block <| sw_seq <| sw_sr <| Go2 4 54 (Ni (p + 3)) 57 (.pointer (some ⟨g, 0, none⟩)) <| Gq rfl (rd_load (by kernel_rfl) rfl (hH.zin _ _ h0)) <| Gc0 1 59 (.int .i64 (((bs s).size : Nat) : Int)) (Ni s.length) (by rw [bs_size]) <| Go1 2 61 (.bool (decide (((p + 3 : Nat) : Int) ≥ ((s.length : Nat) : Int)))) <| Gi 61 rfl (fun hg13 => ?_) (fun hg13 => ?_)
 have hno : pickI s (p + 3) hexX < 0 := by rw [pickI_none _ (by omega)]; omega
 refine Go1 9 70 (.bool true) <| Dn <| It <| sw_sr <| Go2 2 71 (.pointer (some ⟨g, 0, none⟩)) 72 (Ni (p + 3)) <| gl_st (Sc rfl rfl (LWrong_ct g (p + 3) s _ (hH.zin _ _ h0) hs) ?_)
 rintro _ w15 ⟨fb14, rfl, hF16⟩
 replace hH := hH.call hF16
 exact Go3 3 4 (.int .u8 0) 5 (.int .i64 0) 6 (.iface 94 (Pp fb14 0)) <| Dn <| Rt3 rfl rfl rfl rfl <| es_err (by unfold escF; rw [if_neg (by omega), if_neg (by omega), if_neg (by omega), if_neg (by omega), if_neg (by omega), if_pos (by omega), if_neg (by omega), if_pos hno]) (hH.sb (slk sln))
 have hin3 : p + 3 < s.length := by omega
 refine Go1 3 64 (.pointer (some ⟨g, 0, none⟩)) <| Gq rfl (rd_load (by kernel_rfl) rfl (hH.zin _ _ h0)) <| Go1 1 66 (Ni (p + 3)) <| Gq rfl (rd_sidx (by kernel_rfl) rfl (p + 3) rfl (by omega)) <| gl_st (Sc rfl rfl (IndexByte_ct [48, 49, 50, 51, 52, 53, 54, 55, 56, 57, 97, 98, 99, 100, 101, 102] (gb s (p + 3)) _) ?_)
 rintro _ w17 ⟨rfl, hF18⟩
 replace hH := hH.call hF18
 refine Go1 2 70 (.bool (decide ((Lib.indexByte [48, 49, 50, 51, 52, 53, 54, 55, 56, 57, 97, 98, 99, 100, 101, 102] (UInt8.ofNat (gb s (p + 3)))) < (0 : Int)))) <| Dn <| If rfl (fun hc15 => ?_) (fun hc15 => ?_)
 have hno : pickI s (p + 3) hexX < 0 := by rw [pickI_some _ (by omega)]; exact hc15
 refine sw_sr <| Go2 2 71 (.pointer (some ⟨g, 0, none⟩)) 72 (Ni (p + 3)) <| gl_st (Sc rfl rfl (LWrong_ct g (p + 3) s _ (hH.zin _ _ h0) hs) ?_)
 rintro _ w20 ⟨fb19, rfl, hF21⟩
 replace hH := hH.call hF21
 exact Go3 3 4 (.int .u8 0) 5 (.int .i64 0) 6 (.iface 94 (Pp fb19 0)) <| Dn <| Rt3 rfl rfl rfl rfl <| es_err (by unfold escF; rw [if_neg (by omega), if_neg (by omega), if_neg (by omega), if_neg (by omega), if_neg (by omega), if_pos (by omega), if_neg (by omega), if_pos hno]) (hH.sb (slk sln))
 have hyes3 : 0 ≤ Lib.indexByte [48, 49, 50, 51, 52, 53, 54, 55, 56, 57, 97, 98, 99, 100, 101, 102] (UInt8.ofNat (gb s (p + 3))) := by have := hc15; omega
 refine Sk <| sw_region <| Gw0 2 75 ((i2 : Int) * 2 ^ 4) ((i2 * 16 : Nat) : Int) <| Go1 3 78 (.pointer (some ⟨g, 0, none⟩)) <| Gq rfl (rd_load (by kernel_rfl) rfl (hH.zin _ _ h0)) <| Go1 1 80 (Ni (p + 3)) <| Gq rfl (rd_sidx (by kernel_rfl) rfl (p + 3) rfl (by omega)) <| gl_st (Sc rfl rfl (IndexByte_ct [48, 49, 50, 51, 52, 53, 54, 55, 56, 57, 97, 98, 99, 100, 101, 102] (gb s (p + 3)) _) ?_)
 rintro _ w22 ⟨rfl, hF23⟩
 replace hH := hH.call hF23
 obtain ⟨i3, hi3⟩ : ∃ i : Nat, Lib.indexByte [48, 49, 50, 51, 52, 53, 54, 55, 56, 57, 97, 98, 99, 100, 101, 102] (UInt8.ofNat (gb s (p + 3))) = i := ⟨(Lib.indexByte [48, 49, 50, 51, 52, 53, 54, 55, 56, 57, 97, 98, 99, 100, 101, 102] (UInt8.ofNat (gb s (p + 3)))).toNat, by omega⟩
 have hl3 : i3 < 16 := by have h9 := (idx_lt [48, 49, 50, 51, 52, 53, 54, 55, 56, 57, 97, 98, 99, 100, 101, 102] (UInt8.ofNat (gb s (p + 3)))).2; simp only [List.length_cons, List.length_nil] at h9; omega
 have hpk3 : pickI s (p + 3) hexX = i3 := by rw [pickI_some _ (by omega)]; exact hi3
 refine gl_cv 82 (Ni i3) (by rw [hi3]) rfl <| Gc0 1 83 (.int .i64 (IntKind.i64.wrap (((BitVec.ofInt 64 ((i2 * 16 : Nat) : Int) ||| BitVec.ofInt 64 (i3 : Int)).toNat : Nat) : Int))) (Ni (16 * i2 + i3)) (cv_or4_i64 (a := i2) (b := i3) (by omega) (by omega)) <| Go1 1 8 (Ni (16 * i2 + i3)) <| gl_cv 8 (Ni (16 * i2 + i3)) (rfl) rfl <| Dd <| bkN <| sw_next <| sw_region <| Gw0 2 53 (((p + 3 : Nat) : Int) + 1) ((p + 4 : Nat) : Int) <| Go1 1 9 (Ni (p + 4)) <| Dd <| sw_again <| swk [(0, .pointer (some ⟨g, 0, none⟩)), (1, Ni p), (8, Ni (16 * i2 + i3)), (9, Ni (p + 4))] <| sw_seq <| sw_sr <| Gw1 3 50 ((p : Int) + 4) ((p + 4 : Nat) : Int) 48 (Ni (p + 4)) <| Go1 1 51 (.bool (decide (((p + 4 : Nat) : Int) < ((p + 4 : Nat) : Int)))) <| Dn <| If rfl (fun hc16 => absurd hc16 (by omega)) (fun hc16 => ?_)
 clear hc16
 exact sw_exit <| thX <| thX <| bkH <| sw_next <| sw_sr <| Gc0 2 85 (.int .u8 (IntKind.u8.wrap ((16 * i2 + i3 : Nat) : Int))) (.int .u8 ((16 * i2 + i3 : Nat) : Int)) (cv_u8 (by omega)) <| Gw0 2 87 ((p : Int) + 4) ((p + 4 : Nat) : Int) <| Go3 3 4 (.int .u8 ((16 * i2 + i3 : Nat) : Int)) 5 (Ni (p + 4)) 6 (.nilIface) <| Dn <| Rt3 rfl rfl rfl rfl <| es_ok (by unfold escF; rw [if_neg (by omega), if_neg (by omega), if_neg (by omega), if_neg (by omega), if_neg (by omega), if_pos (by omega), if_neg (by omega), if_neg (by omega), hpk2, hpk3]; congr 2) (by omega) (by omega) (by omega) (hH.sb sln)
 have hq7 := hc7
 refine sw_sr <| Gw1 3 32 ((p : Int) + 1) ((p + 1 : Nat) : Int) 30 (.pointer (some ⟨g, 0, none⟩)) <| gl_st (Sc rfl rfl (LWrong_ct g (p + 1) s _ (hH.zin _ _ h0) hs) ?_)
 rintro _ w25 ⟨fb24, rfl, hF26⟩
 replace hH := hH.call hF26
 exact Go3 3 4 (.int .u8 0) 5 (.int .i64 0) 6 (.iface 94 (Pp fb24 0)) <| Dn <| Rt3 rfl rfl rfl rfl <| es_err (by unfold escF; rw [if_neg (by omega), if_neg (by omega), if_neg (by omega), if_neg (by omega), if_neg (by omega), if_neg (by omega)]) (hH.sb (slk sln))
 have hq5 := hc5
 refine sw_sr <| Go1 2 40 (.bool (((gb s (p + 1) : Nat) : Int) == (34 : Int))) <| Dn <| If rfl (fun hc17 => ?_) (fun hc17 => ?_)
 have hq17 := hc17
 refine Sk <| If rfl (fun hc18 => ?_) (fun hc18 => ?_)
 have hq18 := hc18
 exact sw_skip <| bkN <| sw_next <| sw_sr <| Gw1 3 90 ((p : Int) + 2) ((p + 2 : Nat) : Int) 88 (.int .u8 ((gb s (p + 1) : Nat) : Int)) <| Go3 3 4 (.int .u8 ((gb s (p + 1) : Nat) : Int)) 5 (Ni (p + 2)) 6 (.nilIface) <| Dn <| Rt3 rfl rfl rfl rfl <| es_ok (y := gb s (p + 1)) (by unfold escF; rw [if_neg (by omega), if_neg (by omega), if_neg (by omega), if_neg (by omega), if_pos (by omega)]) (by omega) (by omega) (by omega) (hH.sb sln)
 have hq18 := hc18
 refine sw_sr <| Go1 2 44 (.bool (((gb s (p + 1) : Nat) : Int) == (120 : Int))) <| Dn <| If rfl (fun hc19 => ?_) (fun hc19 => ?_)
 have hq19 := hc19
 refine sw_sr <| Go1 1 8 (.int .i64 0) <| Dn <| sw_seq <| sw_sr <| Gw0 2 47 ((p : Int) + 2) ((p + 2 : Nat) : Int) <| Go1 1 9 (Ni (p + 2)) <| Dn <| sw_block <| sw_unroll <| sw_seq <| sw_sr <| Gw1 3 50 ((p : Int) + 4) ((p + 4 : Nat) : Int) 48 (Ni (p + 2)) <| Go1 1 51 (.bool (decide (((p + 2 : Nat) : Int) < ((p + 4 : Nat) : Int)))) <| Dn <| If rfl (fun hc20 => ?_) (fun hc20 => absurd hc20 (by omega))
 clear hc20
 refine Sk <| sw_seq <| sw_block <| sw_seq <| sw_sr <| Go2 4 54 (Ni (p + 2)) 57 (.pointer (some ⟨g, 0, none⟩)) <| Gq rfl (rd_load (by kernel_rfl) rfl (hH.zin _ _ h0)) <| Gc0 1 59 (.int .i64 (((bs s).size : Nat) : Int)) (Ni s.length) (by rw [bs_size]) <| glo 2 [(0, .pointer (some ⟨g, 0, none⟩)), (1, Ni p), (8, .int .i64 0), (9, Ni (p + 2)), (61, .bool (decide (((p + 2 : Nat) : Int) ≥ ((s.length : Nat) : Int))))] <| Gi 61 rfl (fun hg21 => ?_) (fun hg21 => ?_)
 have hno : pickI s (p + 2) hexX < 0 := by rw [pickI_none _ (by omega)]; omega
 refine Go1 9 70 (.bool true) <| Dn <| It <| sw_sr <| Go2 2 71 (.pointer (some ⟨g, 0, none⟩)) 72 (Ni (p + 2)) <| gl_st (Sc rfl rfl (LWrong_ct g (p + 2) s _ (hH.zin _ _ h0) hs) ?_)
 rintro _ w28 ⟨fb27, rfl, hF29⟩
 replace hH := hH.call hF29
 exact Go3 3 4 (.int .u8 0) 5 (.int .i64 0) 6 (.iface 94 (Pp fb27 0)) <| Dn <| Rt3 rfl rfl rfl rfl <| es_err (by unfold escF; rw [if_neg (by omega), if_neg (by omega), if_neg (by omega), if_neg (by omega), if_neg (by omega), if_pos (by omega), if_pos hno]) (hH.sb (slk sln))
 have hin2 : p + 2 < s.length := by omega
 refine Go1 3 64 (.pointer (some ⟨g, 0, none⟩)) <| Gq rfl (rd_load (by kernel_rfl) rfl (hH.zin _ _ h0)) <| Go1 1 66 (Ni (p + 2)) <| Gq rfl (rd_sidx (by kernel_rfl) rfl (p + 2) rfl (by omega)) <| gl_st (Sc rfl rfl (IndexByte_ct [48, 49, 50, 51, 52, 53, 54, 55, 56, 57, 97, 98, 99, 100, 101, 102] (gb s (p + 2)) _) ?_)
 rintro _ w30 ⟨rfl, hF31⟩
 replace hH := hH.call hF31
 refine Go1 2 70 (.bool (decide ((Lib.indexByte [48, 49, 50, 51, 52, 53, 54, 55, 56, 57, 97, 98, 99, 100, 101, 102] (UInt8.ofNat (gb s (p + 2)))) < (0 : Int)))) <| Dn <| If rfl (fun hc23 => ?_) (fun hc23 => ?_)
 have hno : pickI s (p + 2) hexX < 0 := by rw [pickI_some _ (by omega)]; exact hc23
 refine sw_sr <| Go2 2 71 (.pointer (some ⟨g, 0, none⟩)) 72 (Ni (p + 2)) <| gl_st (Sc rfl rfl (LWrong_ct g (p + 2) s _ (hH.zin _ _ h0) hs) ?_)
 rintro _ w33 ⟨fb32, rfl, hF34⟩
 replace hH := hH.call hF34
 exact Go3 3 4 (.int .u8 0) 5 (.int .i64 0) 6 (.iface 94 (Pp fb32 0)) <| Dn <| Rt3 rfl rfl rfl rfl <| es_err (by unfold escF; rw [if_neg (by omega), if_neg (by omega), if_neg (by omega), if_neg (by omega), if_neg (by omega), if_pos (by omega), if_pos hno]) (hH.sb (slk sln))
 have hyes2 : 0 ≤ Lib.indexByte [48, 49, 50, 51, 52, 53, 54, 55, 56, 57, 97, 98, 99, 100, 101, 102] (UInt8.ofNat (gb s (p + 2))) := by have := hc23; omega
 refine Sk <| sw_region <| Gw0 2 75 (0 * 2 ^ 4) ((0 * 16 : Nat) : Int) <| Go1 3 78 (.pointer (some ⟨g, 0, none⟩)) <| Gq rfl (rd_load (by kernel_rfl) rfl (hH.zin _ _ h0)) <| Go1 1 80 (Ni (p + 2)) <| Gq rfl (rd_sidx (by kernel_rfl) rfl (p + 2) rfl (by omega)) <| gl_st (Sc rfl rfl (IndexByte_ct [48, 49, 50, 51, 52, 53, 54, 55, 56, 57, 97, 98, 99, 100, 101, 102] (gb s (p + 2)) _) ?_)
 rintro _ w35 ⟨rfl, hF36⟩
 replace hH := hH.call hF36
 obtain ⟨i2, hi2⟩ : ∃ i : Nat, Lib.indexByte [48, 49, 50, 51, 52, 53, 54, 55, 56, 57, 97, 98, 99, 100, 101, 102] (UInt8.ofNat (gb s (p + 2))) = i := ⟨(Lib.indexByte [48, 49, 50, 51, 52, 53, 54, 55, 56, 57, 97, 98, 99, 100, 101, 102] (UInt8.ofNat (gb s (p + 2)))).toNat, by omega⟩
 have hl2 : i2 < 16 := by have h9 := (idx_lt [48, 49, 50, 51, 52, 53, 54, 55, 56, 57, 97, 98, 99, 100, 101, 102] (UInt8.ofNat (gb s (p + 2)))).2; simp only [List.length_cons, List.length_nil] at h9; omega
 have hpk2 : pickI s (p + 2) hexX = i2 := by rw [pickI_some _ (by omega)]; exact hi2
 refine gl_cv 82 (Ni i2) (by rw [hi2]) rfl <| Gc0 1 83 (.int .i64 (IntKind.i64.wrap (((BitVec.ofInt 64 ((0 * 16 : Nat) : Int) ||| BitVec.ofInt 64 (i2 : Int)).toNat : Nat) : Int))) (Ni (16 * 0 + i2)) (cv_or4_i64 (a := 0) (b := i2) (by omega) (by omega)) <| Go1 1 8 (Ni (16 * 0 + i2)) <| gl_cv 8 (Ni i2) (by rw [show 16 * 0 + i2 = i2 from by omega]) rfl <| Dd <| bkN <| sw_next <| sw_region <| Gw0 2 53 (((p + 2 : Nat) : Int) + 1) ((p + 3 : Nat) : Int) <| Go1 1 9 (Ni (p + 3)) <| Dd <| sw_again <| swk [(0, .pointer (some ⟨g, 0, none⟩)), (1, Ni p), (8, Ni i2), (9, Ni (p + 3))] <| sw_seq <| sw_sr <| Gw1 3 50 ((p : Int) + 4) ((p + 4 : Nat) : Int) 48 (Ni (p + 3)) <| Go1 1 51 (.bool (decide (((p + 3 : Nat) : Int) < ((p + 4 : Nat) : Int)))) <| Dn <| If rfl (fun hc24 => ?_) (fun hc24 => absurd hc24 (by omega))
 clear hc24
 refine Sk <| sw_seq <| sw_block <| sw_seq <| sw_sr <| Go2 4 54 (Ni (p + 3)) 57 (.pointer (some ⟨g, 0, none⟩)) <| Gq rfl (rd_load (by kernel_rfl) rfl (hH.zin _ _ h0)) <| Gc0 1 59 (.int .i64 (((bs s).size : Nat) : Int)) (Ni s.length) (by rw [bs_size]) <| Go1 2 61 (.bool (decide (((p + 3 : Nat) : Int) ≥ ((s.length : Nat) : Int)))) <| Gi 61 rfl (fun hg25 => ?_) (fun hg25 => ?_)
 have hno : pickI s (p + 3) hexX < 0 := by rw [pickI_none _ (by omega)]; omega
 refine Go1 9 70 (.bool true) <| Dn <| It <| sw_sr <| Go2 2 71 (.pointer (some ⟨g, 0, none⟩)) 72 (Ni (p + 3)) <| gl_st (Sc rfl rfl (LWrong_ct g (p + 3) s _ (hH.zin _ _ h0) hs) ?_)
 rintro _ w38 ⟨fb37, rfl, hF39⟩
 replace hH := hH.call hF39
 exact Go3 3 4 (.int .u8 0) 5 (.int .i64 0) 6 (.iface 94 (Pp fb37 0)) <| Dn <| Rt3 rfl rfl rfl rfl <| es_err (by unfold escF; rw [if_neg (by omega), if_neg (by omega), if_neg (by omega), if_neg (by omega), if_neg (by omega), if_pos (by omega), if_neg (by omega), if_pos hno]) (hH.sb (slk sln))
 have hin3 : p + 3 < s.length := by omega
 refine Go1 3 64 (.pointer (some ⟨g, 0, none⟩)) <| Gq rfl (rd_load (by kernel_rfl) rfl (hH.zin _ _ h0)) <| Go1 1 66 (Ni (p + 3)) <| Gq rfl (rd_sidx (by kernel_rfl) rfl (p + 3) rfl (by omega)) <| gl_st (Sc rfl rfl (IndexByte_ct [48, 49, 50, 51, 52, 53, 54, 55, 56, 57, 97, 98, 99, 100, 101, 102] (gb s (p + 3)) _) ?_)
 rintro _ w40 ⟨rfl, hF41⟩
 replace hH := hH.call hF41
 refine Go1 2 70 (.bool (decide ((Lib.indexByte [48, 49, 50, 51, 52, 53, 54, 55, 56, 57, 97, 98, 99, 100, 101, 102] (UInt8.ofNat (gb s (p + 3)))) < (0 : Int)))) <| Dn <| If rfl (fun hc27 => ?_) (fun hc27 => ?_)
 have hno : pickI s (p + 3) hexX < 0 := by rw [pickI_some _ (by omega)]; exact hc27
 refine sw_sr <| Go2 2 71 (.pointer (some ⟨g, 0, none⟩)) 72 (Ni (p + 3)) <| gl_st (Sc rfl rfl (LWrong_ct g (p + 3) s _ (hH.zin _ _ h0) hs) ?_)
 rintro _ w43 ⟨fb42, rfl, hF44⟩
 replace hH := hH.call hF44
 exact Go3 3 4 (.int .u8 0) 5 (.int .i64 0) 6 (.iface 94 (Pp fb42 0)) <| Dn <| Rt3 rfl rfl rfl rfl <| es_err (by unfold escF; rw [if_neg (by omega), if_neg (by omega), if_neg (by omega), if_neg (by omega), if_neg (by omega), if_pos (by omega), if_neg (by omega), if_pos hno]) (hH.sb (slk sln))
 have hyes3 : 0 ≤ Lib.indexByte [48, 49, 50, 51, 52, 53, 54, 55, 56, 57, 97, 98, 99, 100, 101, 102] (UInt8.ofNat (gb s (p + 3))) := by have := hc27; omega
 refine Sk <| sw_region <| Gw0 2 75 ((i2 : Int) * 2 ^ 4) ((i2 * 16 : Nat) : Int) <| Go1 3 78 (.pointer (some ⟨g, 0, none⟩)) <| Gq rfl (rd_load (by kernel_rfl) rfl (hH.zin _ _ h0)) <| Go1 1 80 (Ni (p + 3)) <| Gq rfl (rd_sidx (by kernel_rfl) rfl (p + 3) rfl (by omega)) <| gl_st (Sc rfl rfl (IndexByte_ct [48, 49, 50, 51, 52, 53, 54, 55, 56, 57, 97, 98, 99, 100, 101, 102] (gb s (p + 3)) _) ?_)
 rintro _ w45 ⟨rfl, hF46⟩
 replace hH := hH.call hF46
 obtain ⟨i3, hi3⟩ : ∃ i : Nat, Lib.indexByte [48, 49, 50, 51, 52, 53, 54, 55, 56, 57, 97, 98, 99, 100, 101, 102] (UInt8.ofNat (gb s (p + 3))) = i := ⟨(Lib.indexByte [48, 49, 50, 51, 52, 53, 54, 55, 56, 57, 97, 98, 99, 100, 101, 102] (UInt8.ofNat (gb s (p + 3)))).toNat, by omega⟩
 have hl3 : i3 < 16 := by have h9 := (idx_lt [48, 49, 50, 51, 52, 53, 54, 55, 56, 57, 97, 98, 99, 100, 101, 102] (UInt8.ofNat (gb s (p + 3)))).2; simp only [List.length_cons, List.length_nil] at h9; omega
 have hpk3 : pickI s (p + 3) hexX = i3 := by rw [pickI_some _ (by omega)]; exact hi3
 refine gl_cv 82 (Ni i3) (by rw [hi3]) rfl <| Gc0 1 83 (.int .i64 (IntKind.i64.wrap (((BitVec.ofInt 64 ((i2 * 16 : Nat) : Int) ||| BitVec.ofInt 64 (i3 : Int)).toNat : Nat) : Int))) (Ni (16 * i2 + i3)) (cv_or4_i64 (a := i2) (b := i3) (by omega) (by omega)) <| Go1 1 8 (Ni (16 * i2 + i3)) <| gl_cv 8 (Ni (16 * i2 + i3)) (rfl) rfl <| Dd <| bkN <| sw_next <| sw_region <| Gw0 2 53 (((p + 3 : Nat) : Int) + 1) ((p + 4 : Nat) : Int) <| Go1 1 9 (Ni (p + 4)) <| Dd <| sw_again <| swk [(0, .pointer (some ⟨g, 0, none⟩)), (1, Ni p), (8, Ni (16 * i2 + i3)), (9, Ni (p + 4))] <| sw_seq <| sw_sr <| Gw1 3 50 ((p : Int) + 4) ((p + 4 : Nat) : Int) 48 (Ni (p + 4)) <| Go1 1 51 (.bool (decide (((p + 4 : Nat) : Int) < ((p + 4 : Nat) : Int)))) <| Dn <| If rfl (fun hc28 => absurd hc28 (by omega)) (fun hc28 => ?_)
 clear hc28
 exact sw_exit <| thX <| thX <| bkH <| sw_next <| sw_sr <| Gc0 2 85 (.int .u8 (IntKind.u8.wrap ((16 * i2 + i3 : Nat) : Int))) (.int .u8 ((16 * i2 + i3 : Nat) : Int)) (cv_u8 (by omega)) <| Gw0 2 87 ((p : Int) + 4) ((p + 4 : Nat) : Int) <| Go3 3 4 (.int .u8 ((16 * i2 + i3 : Nat) : Int)) 5 (Ni (p + 4)) 6 (.nilIface) <| Dn <| Rt3 rfl rfl rfl rfl <| es_ok (by unfold escF; rw [if_neg (by omega), if_neg (by omega), if_neg (by omega), if_neg (by omega), if_neg (by omega), if_pos (by omega), if_neg (by omega), if_neg (by omega), hpk2, hpk3]; congr 2) (by omega) (by omega) (by omega) (hH.sb sln)
 have hq19 := hc19
 refine sw_sr <| Gw1 3 32 ((p : Int) + 1) ((p + 1 : Nat) : Int) 30 (.pointer (some ⟨g, 0, none⟩)) <| gl_st (Sc rfl rfl (LWrong_ct g (p + 1) s _ (hH.zin _ _ h0) hs) ?_)
 rintro _ w48 ⟨fb47, rfl, hF49⟩
 replace hH := hH.call hF49
 exact Go3 3 4 (.int .u8 0) 5 (.int .i64 0) 6 (.iface 94 (Pp fb47 0)) <| Dn <| Rt3 rfl rfl rfl rfl <| es_err (by unfold escF; rw [if_neg (by omega), if_neg (by omega), if_neg (by omega), if_neg (by omega), if_neg (by omega), if_neg (by omega)]) (hH.sb (slk sln))
 have hq17 := hc17
 refine sw_region <| Go1 2 40 (.bool (((gb s (p + 1) : Nat) : Int) == (39 : Int))) <| Dd <| sw_next <| If rfl (fun hc29 => ?_) (fun hc29 => ?_)
 have hq29 := hc29
 exact sw_skip <| bkN <| sw_next <| sw_sr <| Gw1 3 90 ((p : Int) + 2) ((p + 2 : Nat) : Int) 88 (.int .u8 ((gb s (p + 1) : Nat) : Int)) <| Go3 3 4 (.int .u8 ((gb s (p + 1) : Nat) : Int)) 5 (Ni (p + 2)) 6 (.nilIface) <| Dn <| Rt3 rfl rfl rfl rfl <| es_ok (y := gb s (p + 1)) (by unfold escF; rw [if_neg (by omega), if_neg (by omega), if_neg (by omega), if_neg (by omega), if_pos (by omega)]) (by omega) (by omega) (by omega) (hH.sb sln)
 have hq29 := hc29
 refine sw_sr <| Go1 2 44 (.bool (((gb s (p + 1) : Nat) : Int) == (120 : Int))) <| Dn <| If rfl (fun hc30 => ?_) (fun hc30 => ?_)
 have hq30 := hc30
 refine sw_sr <| Go1 1 8 (.int .i64 0) <| Dn <| sw_seq <| sw_sr <| Gw0 2 47 ((p : Int) + 2) ((p + 2 : Nat) : Int) <| Go1 1 9 (Ni (p + 2)) <| Dn <| sw_block <| sw_unroll <| sw_seq <| sw_sr <| Gw1 3 50 ((p : Int) + 4) ((p + 4 : Nat) : Int) 48 (Ni (p + 2)) <| Go1 1 51 (.bool (decide (((p + 2 : Nat) : Int) < ((p + 4 : Nat) : Int)))) <| Dn <| If rfl (fun hc31 => ?_) (fun hc31 => absurd hc31 (by omega))
 clear hc31
 refine Sk <| sw_seq <| sw_block <| sw_seq <| sw_sr <| Go2 4 54 (Ni (p + 2)) 57 (.pointer (some ⟨g, 0, none⟩)) <| Gq rfl (rd_load (by kernel_rfl) rfl (hH.zin _ _ h0)) <| Gc0 1 59 (.int .i64 (((bs s).size : Nat) : Int)) (Ni s.length) (by rw [bs_size]) <| glo 2 [(0, .pointer (some ⟨g, 0, none⟩)), (1, Ni p), (8, .int .i64 0), (9, Ni (p + 2)), (61, .bool (decide (((p + 2 : Nat) : Int) ≥ ((s.length : Nat) : Int))))] <| Gi 61 rfl (fun hg32 => ?_) (fun hg32 => ?_)
 have hno : pickI s (p + 2) hexX < 0 := by rw [pickI_none _ (by omega)]; omega
 refine Go1 9 70 (.bool true) <| Dn <| It <| sw_sr <| Go2 2 71 (.pointer (some ⟨g, 0, none⟩)) 72 (Ni (p + 2)) <| gl_st (Sc rfl rfl (LWrong_ct g (p + 2) s _ (hH.zin _ _ h0) hs) ?_)
 rintro _ w51 ⟨fb50, rfl, hF52⟩
 replace hH := hH.call hF52
 exact Go3 3 4 (.int .u8 0) 5 (.int .i64 0) 6 (.iface 94 (Pp fb50 0)) <| Dn <| Rt3 rfl rfl rfl rfl <| es_err (by unfold escF; rw [if_neg (by omega), if_neg (by omega), if_neg (by omega), if_neg (by omega), if_neg (by omega), if_pos (by omega), if_pos hno]) (hH.sb (slk sln))
 have hin2 : p + 2 < s.length := by omega
 refine Go1 3 64 (.pointer (some ⟨g, 0, none⟩)) <| Gq rfl (rd_load (by kernel_rfl) rfl (hH.zin _ _ h0)) <| Go1 1 66 (Ni (p + 2)) <| Gq rfl (rd_sidx (by kernel_rfl) rfl (p + 2) rfl (by omega)) <| gl_st (Sc rfl rfl (IndexByte_ct [48, 49, 50, 51, 52, 53, 54, 55, 56, 57, 97, 98, 99, 100, 101, 102] (gb s (p + 2)) _) ?_)
 rintro _ w53 ⟨rfl, hF54⟩
 replace hH := hH.call hF54
 refine Go1 2 70 (.bool (decide ((Lib.indexByte [48, 49, 50, 51, 52, 53, 54, 55, 56, 57, 97, 98, 99, 100, 101, 102] (UInt8.ofNat (gb s (p + 2)))) < (0 : Int)))) <| Dn <| If rfl (fun hc34 => ?_) (fun hc34 => ?_)
 have hno : pickI s (p + 2) hexX < 0 := by rw [pickI_some _ (by omega)]; exact hc34
 refine sw_sr <| Go2 2 71 (.pointer (some ⟨g, 0, none⟩)) 72 (Ni (p + 2)) <| gl_st (Sc rfl rfl (LWrong_ct g (p + 2) s _ (hH.zin _ _ h0) hs) ?_)
 rintro _ w56 ⟨fb55, rfl, hF57⟩
 replace hH := hH.call hF57
 exact Go3 3 4 (.int .u8 0) 5 (.int .i64 0) 6 (.iface 94 (Pp fb55 0)) <| Dn <| Rt3 rfl rfl rfl rfl <| es_err (by unfold escF; rw [if_neg (by omega), if_neg (by omega), if_neg (by omega), if_neg (by omega), if_neg (by omega), if_pos (by omega), if_pos hno]) (hH.sb (slk sln))
 have hyes2 : 0 ≤ Lib.indexByte [48, 49, 50, 51, 52, 53, 54, 55, 56, 57, 97, 98, 99, 100, 101, 102] (UInt8.ofNat (gb s (p + 2))) := by have := hc34; omega
 refine Sk <| sw_region <| Gw0 2 75 (0 * 2 ^ 4) ((0 * 16 : Nat) : Int) <| Go1 3 78 (.pointer (some ⟨g, 0, none⟩)) <| Gq rfl (rd_load (by kernel_rfl) rfl (hH.zin _ _ h0)) <| Go1 1 80 (Ni (p + 2)) <| Gq rfl (rd_sidx (by kernel_rfl) rfl (p + 2) rfl (by omega)) <| gl_st (Sc rfl rfl (IndexByte_ct [48, 49, 50, 51, 52, 53, 54, 55, 56, 57, 97, 98, 99, 100, 101, 102] (gb s (p + 2)) _) ?_)
 rintro _ w58 ⟨rfl, hF59⟩
 replace hH := hH.call hF59
 obtain ⟨i2, hi2⟩ : ∃ i : Nat, Lib.indexByte [48, 49, 50, 51, 52, 53, 54, 55, 56, 57, 97, 98, 99, 100, 101, 102] (UInt8.ofNat (gb s (p + 2))) = i := ⟨(Lib.indexByte [48, 49, 50, 51, 52, 53, 54, 55, 56, 57, 97, 98, 99, 100, 101, 102] (UInt8.ofNat (gb s (p + 2)))).toNat, by omega⟩
 have hl2 : i2 < 16 := by have h9 := (idx_lt [48, 49, 50, 51, 52, 53, 54, 55, 56, 57, 97, 98, 99, 100, 101, 102] (UInt8.ofNat (gb s (p + 2)))).2; simp only [List.length_cons, List.length_nil] at h9; omega
 have hpk2 : pickI s (p + 2) hexX = i2 := by rw [pickI_some _ (by omega)]; exact hi2
 refine gl_cv 82 (Ni i2) (by rw [hi2]) rfl <| Gc0 1 83 (.int .i64 (IntKind.i64.wrap (((BitVec.ofInt 64 ((0 * 16 : Nat) : Int) ||| BitVec.ofInt 64 (i2 : Int)).toNat : Nat) : Int))) (Ni (16 * 0 + i2)) (cv_or4_i64 (a := 0) (b := i2) (by omega) (by omega)) <| Go1 1 8 (Ni (16 * 0 + i2)) <| gl_cv 8 (Ni i2) (by rw [show 16 * 0 + i2 = i2 from by omega]) rfl <| Dd <| bkN <| sw_next <| sw_region <| Gw0 2 53 (((p + 2 : Nat) : Int) + 1) ((p + 3 : Nat) : Int) <| Go1 1 9 (Ni (p + 3)) <| Dd <| sw_again <| swk [(0, .pointer (some ⟨g, 0, none⟩)), (1, Ni p), (8, Ni i2), (9, Ni (p + 3))] <| sw_seq <| sw_sr <| Gw1 3 50 ((p : Int) + 4) ((p + 4 : Nat) : Int) 48 (Ni (p + 3)) <| Go1 1 51 (.bool (decide (((p + 3 : Nat) : Int) < ((p + 4 : Nat) : Int)))) <| Dn <| If rfl (fun hc35 => ?_) (fun hc35 => absurd hc35 (by omega))
 clear hc35
 refine Sk <| sw_seq <| sw_block <| sw_seq <| sw_sr <| Go2 4 54 (Ni (p + 3)) 57 (.pointer (some ⟨g, 0, none⟩)) <| Gq rfl (rd_load (by kernel_rfl) rfl (hH.zin _ _ h0)) <| Gc0 1 59 (.int .i64 (((bs s).size : Nat) : Int)) (Ni s.length) (by rw [bs_size]) <| Go1 2 61 (.bool (decide (((p + 3 : Nat) : Int) ≥ ((s.length : Nat) : Int)))) <| Gi 61 rfl (fun hg36 => ?_) (fun hg36 => ?_)
 have hno : pickI s (p + 3) hexX < 0 := by rw [pickI_none _ (by omega)]; omega
 refine Go1 9 70 (.bool true) <| Dn <| It <| sw_sr <| Go2 2 71 (.pointer (some ⟨g, 0, none⟩)) 72 (Ni (p + 3)) <| gl_st (Sc rfl rfl (LWrong_ct g (p + 3) s _ (hH.zin _ _ h0) hs) ?_)
 rintro _ w61 ⟨fb60, rfl, hF62⟩
 replace hH := hH.call hF62
 exact Go3 3 4 (.int .u8 0) 5 (.int .i64 0) 6 (.iface 94 (Pp fb60 0)) <| Dn <| Rt3 rfl rfl rfl rfl <| es_err (by unfold escF; rw [if_neg (by omega), if_neg (by omega), if_neg (by omega), if_neg (by omega), if_neg (by omega), if_pos (by omega), if_neg (by omega), if_pos hno]) (hH.sb (slk sln))
 have hin3 : p + 3 < s.length := by omega
 refine Go1 3 64 (.pointer (some ⟨g, 0, none⟩)) <| Gq rfl (rd_load (by kernel_rfl) rfl (hH.zin _ _ h0)) <| Go1 1 66 (Ni (p + 3)) <| Gq rfl (rd_sidx (by kernel_rfl) rfl (p + 3) rfl (by omega)) <| gl_st (Sc rfl rfl (IndexByte_ct [48, 49, 50, 51, 52, 53, 54, 55, 56, 57, 97, 98, 99, 100, 101, 102] (gb s (p + 3)) _) ?_)
 rintro _ w63 ⟨rfl, hF64⟩
 replace hH := hH.call hF64
 refine Go1 2 70 (.bool (decide ((Lib.indexByte [48, 49, 50, 51, 52, 53, 54, 55, 56, 57, 97, 98, 99, 100, 101, 102] (UInt8.ofNat (gb s (p + 3)))) < (0 : Int)))) <| Dn <| If rfl (fun hc38 => ?_) (fun hc38 => ?_)
 have hno : pickI s (p + 3) hexX < 0 := by rw [pickI_some _ (by omega)]; exact hc38
 refine sw_sr <| Go2 2 71 (.pointer (some ⟨g, 0, none⟩)) 72 (Ni (p + 3)) <| gl_st (Sc rfl rfl (LWrong_ct g (p + 3) s _ (hH.zin _ _ h0) hs) ?_)
 rintro _ w66 ⟨fb65, rfl, hF67⟩
 replace hH := hH.call hF67
 exact Go3 3 4 (.int .u8 0) 5 (.int .i64 0) 6 (.iface 94 (Pp fb65 0)) <| Dn <| Rt3 rfl rfl rfl rfl <| es_err (by unfold escF; rw [if_neg (by omega), if_neg (by omega), if_neg (by omega), if_neg (by omega), if_neg (by omega), if_pos (by omega), if_neg (by omega), if_pos hno]) (hH.sb (slk sln))
 have hyes3 : 0 ≤ Lib.indexByte [48, 49, 50, 51, 52, 53, 54, 55, 56, 57, 97, 98, 99, 100, 101, 102] (UInt8.ofNat (gb s (p + 3))) := by have := hc38; omega
 refine Sk <| sw_region <| Gw0 2 75 ((i2 : Int) * 2 ^ 4) ((i2 * 16 : Nat) : Int) <| Go1 3 78 (.pointer (some ⟨g, 0, none⟩)) <| Gq rfl (rd_load (by kernel_rfl) rfl (hH.zin _ _ h0)) <| Go1 1 80 (Ni (p + 3)) <| Gq rfl (rd_sidx (by kernel_rfl) rfl (p + 3) rfl (by omega)) <| gl_st (Sc rfl rfl (IndexByte_ct [48, 49, 50, 51, 52, 53, 54, 55, 56, 57, 97, 98, 99, 100, 101, 102] (gb s (p + 3)) _) ?_)
 rintro _ w68 ⟨rfl, hF69⟩
 replace hH := hH.call hF69
 obtain ⟨i3, hi3⟩ : ∃ i : Nat, Lib.indexByte [48, 49, 50, 51, 52, 53, 54, 55, 56, 57, 97, 98, 99, 100, 101, 102] (UInt8.ofNat (gb s (p + 3))) = i := ⟨(Lib.indexByte [48, 49, 50, 51, 52, 53, 54, 55, 56, 57, 97, 98, 99, 100, 101, 102] (UInt8.ofNat (gb s (p + 3)))).toNat, by omega⟩
 have hl3 : i3 < 16 := by have h9 := (idx_lt [48, 49, 50, 51, 52, 53, 54, 55, 56, 57, 97, 98, 99, 100, 101, 102] (UInt8.ofNat (gb s (p + 3)))).2; simp only [List.length_cons, List.length_nil] at h9; omega
 have hpk3 : pickI s (p + 3) hexX = i3 := by rw [pickI_some _ (by omega)]; exact hi3
 refine gl_cv 82 (Ni i3) (by rw [hi3]) rfl <| Gc0 1 83 (.int .i64 (IntKind.i64.wrap (((BitVec.ofInt 64 ((i2 * 16 : Nat) : Int) ||| BitVec.ofInt 64 (i3 : Int)).toNat : Nat) : Int))) (Ni (16 * i2 + i3)) (cv_or4_i64 (a := i2) (b := i3) (by omega) (by omega)) <| Go1 1 8 (Ni (16 * i2 + i3)) <| gl_cv 8 (Ni (16 * i2 + i3)) (rfl) rfl <| Dd <| bkN <| sw_next <| sw_region <| Gw0 2 53 (((p + 3 : Nat) : Int) + 1) ((p + 4 : Nat) : Int) <| Go1 1 9 (Ni (p + 4)) <| Dd <| sw_again <| swk [(0, .pointer (some ⟨g, 0, none⟩)), (1, Ni p), (8, Ni (16 * i2 + i3)), (9, Ni (p + 4))] <| sw_seq <| sw_sr <| Gw1 3 50 ((p : Int) + 4) ((p + 4 : Nat) : Int) 48 (Ni (p + 4)) <| Go1 1 51 (.bool (decide (((p + 4 : Nat) : Int) < ((p + 4 : Nat) : Int)))) <| Dn <| If rfl (fun hc39 => absurd hc39 (by omega)) (fun hc39 => ?_)
 clear hc39
 exact sw_exit <| thX <| thX <| bkH <| sw_next <| sw_sr <| Gc0 2 85 (.int .u8 (IntKind.u8.wrap ((16 * i2 + i3 : Nat) : Int))) (.int .u8 ((16 * i2 + i3 : Nat) : Int)) (cv_u8 (by omega)) <| Gw0 2 87 ((p : Int) + 4) ((p + 4 : Nat) : Int) <| Go3 3 4 (.int .u8 ((16 * i2 + i3 : Nat) : Int)) 5 (Ni (p + 4)) 6 (.nilIface) <| Dn <| Rt3 rfl rfl rfl rfl <| es_ok (by unfold escF; rw [if_neg (by omega), if_neg (by omega), if_neg (by omega), if_neg (by omega), if_neg (by omega), if_pos (by omega), if_neg (by omega), if_neg (by omega), hpk2, hpk3]; congr 2) (by omega) (by omega) (by omega) (hH.sb sln)
 have hq30 := hc30
 refine sw_sr <| Gw1 3 32 ((p : Int) + 1) ((p + 1 : Nat) : Int) 30 (.pointer (some ⟨g, 0, none⟩)) <| gl_st (Sc rfl rfl (LWrong_ct g (p + 1) s _ (hH.zin _ _ h0) hs) ?_)
 rintro _ w71 ⟨fb70, rfl, hF72⟩
 replace hH := hH.call hF72
 exact Go3 3 4 (.int .u8 0) 5 (.int .i64 0) 6 (.iface 94 (Pp fb70 0)) <| Dn <| Rt3 rfl rfl rfl rfl <| es_err (by unfold escF; rw [if_neg (by omega), if_neg (by omega), if_neg (by omega), if_neg (by omega), if_neg (by omega), if_neg (by omega)]) (hH.sb (slk sln))
theorem SlClone_ct (s : List UInt8) (w : World) (hs : s.length ≤ 140737488355328) : Fun Tryz.prog 166 [.string (bs s)] w fun v w' => v = .string (bs s) ∧ Fresh w w' [] := by
  refine Calls.mono (Tryz.stringslite_Clone (bs s) w (by rw [bs_size]; omega)) ?_
  rintro e w' ⟨rfl, hb⟩
  exact ⟨_, rfl, rfl, Fresh.none hb⟩

theorem StrClone_ct (s : List UInt8) (w : World) (hs : s.length ≤ 140737488355328) :
    Fun Tryz.prog 138 [.string (bs s)] w fun v w' => v = .string (bs s) ∧ Fresh w w' [] := by
 refine fun_of_sw Tryz.func138 rfl 5 rfl rfl ?_
 have hH := Hp.start w
 refine sw_sr <| Go0 1 <| Dn <| sw_sr <| Go1 1 3 (.string (bs s)) <| gl_st (Sc rfl rfl (SlClone_ct s _ hs) ?_)
 rintro _ w1 ⟨rfl, hF2⟩
 replace hH := hH.call hF2
 refine Go1 1 2 (.string (bs s)) <| Dn <| Rt1 rfl rfl ?_
 exact ⟨rfl, (hH.sb sln).fresh⟩
theorem HasPre_ct (s q : List UInt8) (w : World) : Fun Tryz.prog 139 [.string (bs s), .string (bs q)] w fun v w' => v = .bool (Lib.hasPrefix s q) ∧ Fresh w w' [] := by
  refine Calls.mono (Tryz.strings_HasPrefix (bs s) (bs q) w) ?_
  rintro e w' ⟨rfl, rfl⟩
  exact ⟨_, rfl, by simp [bs], Fresh.none (Below.refl _ _)⟩

def tkO (g : Nat) (s : List UInt8) (R : Except (Nat × Nat) (Tk × Nat)) (v1 : Value) (l : List Tk) : Own := .grp (match R with | .error _ => [] | .ok (t, q) => [cutO g s q v1, tksO v1 (l ++ [t])])
def TkPost (g p : Nat) (s : List UInt8) (v : Value) (l : List Tk) (R : Except (Nat × Nat) (Tk × Nat)) (w : World) (x : Value) (w' : World) : Prop :=
  ∃ v1 fb, x = fltV (erOf R) fb ∧ ((∃ er, R = .error er) ∨ (∃ t q, R = .ok (t, q) ∧ p < q ∧ q ≤ s.length ∧ t.text.length ≤ 8192 ∧ t.cl.Ok)) ∧ Turn w w' [cutO g s p v, tksO v l] [tkO g s R v1 l, fltO (erOf R) fb]
theorem tk_err {g p fb : Nat} {s : List UInt8} {v : Value} {l : List Tk} {R : Except (Nat × Nat) (Tk × Nat)} {er : Nat × Nat} {w w' : World} (hR : R = .error er) (h : Turn w w' [cutO g s p v, tksO v l] [.blk fb 97 [.int .i64 ((er.1 : Nat) : Int), .int .i64 ((er.2 : Nat) : Int)]]) : TkPost g p s v l R w (.iface 94 (.pointer (some ⟨fb, 0, none⟩))) w' := by
  subst hR
  refine ⟨.nilIface, fb, rfl, .inl ⟨er, rfl⟩, ?_⟩
  have h2 := flt_some (c := er.1) (a := ((er.2 : Nat) : Int)) h
  exact Hp.close (l := []) h2
theorem tk_ok {g p q : Nat} {s : List UInt8} {v v1 : Value} {l : List Tk} {R : Except (Nat × Nat) (Tk × Nat)} {t : Tk} {w w' : World} (hR : R = .ok (t, q)) (h1 : p < q) (h2 : q ≤ s.length) (h3 : t.text.length ≤ 8192) (h4 : t.cl.Ok) (h : Turn w w' [cutO g s p v, tksO v l] [cutO g s q v1, tksO v1 (l ++ [t])]) : TkPost g p s v l R w .nilIface w' := by
  subst hR
  refine ⟨v1, 0, rfl, .inr ⟨t, q, rfl, h1, h2, h3, h4⟩, ?_⟩
  have h5 : Hp w w' _ _ ([cutO g s q v1, tksO v1 (l ++ [t])] ++ []) := h
  have h6 := flt_none 0 (Hp.close h5)
  exact h6.fr2

end Go.Proofs.YtllfpnbhjfadiaaGreatDoor
/- Layer 3 (lex): literals: what the program's functions answer. -/
set_option maxRecDepth 100000
set_option maxHeartbeats 2000000
set_option linter.unusedVariables false
set_option linter.unusedSimpArgs false
namespace Go.Proofs.YtllfpnbhjfadiaaGreatDoor
open Go.RowKit Go.SW
def litR (s : List UInt8) (p : Nat) : Except (Nat × Nat) (Tk × Nat) :=
  match litF s (gb s p) p (s.length + 1) (p + 1) [] with
  | .error e => .error e
  | .ok (t, e) => .ok (⟨3, t, Cl.zero, p⟩, e)
theorem litF_succ (s : List UInt8) (q p0 k p : Nat) (acc : List UInt8) : litF s q p0 (k + 1) p acc =
    if s.length ≤ p then .error (wrongC s p) else
    if gb s p = q then .ok (acc, p + 1) else
    match (if gb s p = 92 then escF s p else .ok (gb s p, p + 1)) with
    | .error e => .error e
    | .ok (y, e) =>
      if gb s p < 32 ∨ 126 < gb s p then .error (wrongC s p) else
      if acc.length = 255 then .error (2, p0) else litF s q p0 k e (acc ++ [UInt8.ofNat y]) := rfl

theorem tk_errO {g p fb : Nat} {s : List UInt8} {v : Value} {l : List Tk} {R : Except (Nat × Nat) (Tk × Nat)} {er : Nat × Nat} {w w' : World} (hR : R = .error er) (h : Turn w w' [cutO g s p v, tksO v l] [fltO (some (er.1, ((er.2 : Nat) : Int))) fb]) : TkPost g p s v l R w (fltV (some (er.1, ((er.2 : Nat) : Int))) fb) w' := by
  subst hR
  exact ⟨.nilIface, fb, rfl, .inl ⟨er, rfl⟩, Hp.close (l := []) h⟩

theorem LLiteral_ct (g p : Nat) (s : List UInt8) (v : Value) (l : List Tk) (w : World) (hM : Mine w [cutO g s p v, tksO v l]) (hs : s.length ≤ 140737488355328) (hn : l.length ≤ 8193) (hp : p < s.length) :
    Fun Tryz.prog 140 [Pp g 0] w fun x w' => TkPost g p s v l (litR s p) w x w' := by
 refine fun_of_sw Tryz.func140 rfl 92 rfl rfl ?_
 have hH := Hp.start_mine hM
 have hgp := gb_lt s p
 refine sw_sr <| Go0 1 <| Dn <| sw_sr <| gl_st (Alc [.pointer none, .slice none 0 0] rfl hH ?_)
 clear hH; intro b1 w2 hH
 refine Dn <| sw_seq <| Dr hH (slk (slk (slk sln))) ?_
 clear hH; intro w3 hH hS9
 refine Gp1 3 [0,1,2] 11 (Pp g 0) hS9 <| Dq 3 rfl (fun _ hS => (Lk 0 hS rfl rfl rfl)) hS9 <| Gp1 3 [4,5,6] 15 (Pp g 1) hS9 <| Dq 7 rfl (fun _ hS => (Lk 0 hS rfl rfl rfl)) hS9 <| Dq 8 rfl (fun _ hS => (rd_sidx (by kernel_rfl) rfl p rfl (by omega))) hS9 <| Gp1 1 [9] 4 (.int .u8 ((gb s p : Nat) : Int)) hS9 <| gdn [(0, Pp g 0), (3, Pp b1 0), (4, .int .u8 ((gb s p : Nat) : Int))] <| sw_next <| sw_sr <| Go1 3 20 (Pp g 1) <| Gq rfl (Lk 0 hH rfl rfl rfl) <| Gw0 1 22 ((p : Int) + 1) ((p + 1 : Nat) : Int) <| Go1 1 5 (Ni (p + 1)) <| Dn <| sw_block ?_
 replace hH := hH.nilRow 5 1
 replace hH := (hH.sb (slk (slk (slk (slk sln))))).n4
 refine Lp (γ := List UInt8 × Nat × Nat × Value × Value) hH (fun (acc, p1, k, bv9, ad) => [(0, Pp g 0), (3, Pp b1 0), (4, .int .u8 ((gb s p : Nat) : Int)), (5, Ni p1)]) (fun (acc, p1, k, bv9, ad) w_ H_ => (litF s (gb s p) p (s.length + 1) (p + 1) [] = litF s (gb s p) p (k + 1) p1 acc) ∧ (p < p1) ∧ (p1 ≤ s.length) ∧ (s.length ≤ k + p1) ∧ (acc.length ≤ 255) ∧ (AdB ad b1) ∧ (acc ≠ [] ∨ bv9 = .slice none 0 0) ∧ H_ [.blk g 190 [.string (bs s), Ni p, v], .row v 131 7 l.length (rowC tkC l), .blk b1 209 [ad, bv9], .row bv9 5 1 acc.length (bv acc)]) (fun (acc, p1, k, bv9, ad) => k) ([], p + 1, s.length, .slice none 0 0, .pointer none) ?_ ?_
 · exact ⟨rfl, by omega, by omega, by omega, Nat.zero_le _, .inl rfl, .inr rfl, hH⟩
 clear hH
 rintro ⟨acc, p1, k, bv9, ad⟩ w4 ⟨hm, hp1, hp2, hk, hal, had, hne, hH⟩
 refine swk [(0, Pp g 0), (3, Pp b1 0), (4, .int .u8 ((gb s p : Nat) : Int)), (5, Ni p1)] <| sw_block <| sw_seq ?_
 have hgb := gb_lt s p1
 refine sw_sr <| Go2 4 23 (Ni p1) 26 (Pp g 0) <| Gq rfl (Lk 0 hH rfl rfl rfl) <| Gc0 1 28 (.int .i64 (((bs s).size : Nat) : Int)) (Ni s.length) (by rw [bs_size]) <| Go1 1 29 (.bool (decide ((p1 : Int) ≥ ((s.length : Nat) : Int)))) <| Dn <| If rfl (fun hc1 => ?_) (fun hc1 => ?_)
 have hq1 := hc1
 refine sw_sr <| Go2 2 30 (Pp g 0) 31 (Ni p1) <| gl_st (Sc rfl rfl (LWrong_ct g p1 s _ (hH.blk_cell 0 rfl rfl) hs) ?_)
 rintro _ w6 ⟨fb5, rfl, hF7⟩
 replace hH := hH.call hF7
 refine Go1 1 2 (.iface 94 (Pp fb5 0)) <| Dn <| Rt1 rfl rfl ?_
 replace hH := hH.fr5
 replace hH := (hH.sb (slk sln)).n1
 exact tk_err (by unfold litR; rw [hm, litF_succ, if_pos (by omega)]) hH.turned
 have hq1 := hc1
 refine Sk <| sw_sr <| Go1 3 35 (Pp g 0) <| Gq rfl (Lk 0 hH rfl rfl rfl) <| Go1 1 37 (Ni p1) <| Gq rfl (rd_sidx (by kernel_rfl) rfl p1 rfl (by omega)) <| Gw0 2 40 ((p1 : Int) + 1) ((p1 + 1 : Nat) : Int) <| Go2 2 6 (.int .u8 ((gb s p1 : Nat) : Int)) 7 (Ni (p1 + 1)) <| Dn <| sw_block <| sw_seq <| sw_block <| sw_seq <| sw_block <| sw_seq <| sw_block <| sw_seq <| sw_seq <| sw_sr <| Go1 4 41 (.bool (((gb s p1 : Nat) : Int) == ((gb s p : Nat) : Int))) <| Dn <| If rfl (fun hc2 => ?_) (fun hc2 => ?_)
 have hq2 := hc2
 refine sw_exit <| thX <| thX <| bkH <| sw_next <| sw_seq <| sw_sr <| Go1 1 48 (Pp g 0) ?_
 replace hH : Hp w w4 _ _ ([_, _] ++ [_, _]) := hH.fr4.fr4
 refine gl_st (Sc rfl rfl (String_ct b1 209 (ad) bv9 acc _ hH.mine hne) ?_)
 rintro _ w8 ⟨rfl, hF9⟩
 replace hH := hH.turns hF9
 replace hH := hH.n2
 refine Go2 2 50 (.agg #[.int .i64 3, .string (bs acc), .int .u64 0, .int .u64 0, .int .u64 0, .int .u64 0, .int .i64 0]) 51 (Ni (p1 + 1)) ?_
 replace hH : Hp w w8 _ _ ([_, _] ++ []) := hH
 refine gl_st (Sc rfl rfl (LAdd_ct g p (p1 + 1) s v l ⟨3, acc, Cl.zero, 0⟩ 0 _ hH.mine hn) ?_)
 rintro _ w11 ⟨v10, rfl, hF12⟩
 replace hH := hH.turns hF12
 replace hH := hH.n2
 refine Dn <| sw_sr <| Go1 1 2 (.nilIface) <| Dn <| Rt1 rfl rfl ?_
 replace hH := (hH.sb (slk (slk sln))).n2
 exact tk_ok (by unfold litR; rw [hm, litF_succ, if_neg (by omega), if_pos (by omega)]) (by omega) (by omega) (by show acc.length ≤ 8192; omega) Cl.zero_ok hH.turned
 have hq2 := hc2
 refine Sk <| sw_sr <| Go1 3 45 (.bool (((gb s p1 : Nat) : Int) == (92 : Int))) <| Dn <| If rfl (fun hc3 => ?_) (fun hc3 => ?_)
 have hq3 := hc3
 refine sw_exit <| thX <| bkX rfl <| thX <| bkH <| sw_next <| sw_sr <| Go0 1 <| Dn <| sw_sr <| Go2 2 54 (Pp g 0) 55 (Ni p1) <| gl_st (Sc rfl rfl (LEscape_ct g p1 s _ (hH.blk_cell 0 rfl rfl) hs (by omega)) ?_)
 rintro _ w17 ⟨y13, e14, fb15, rfl, hv16, hF18⟩
 replace hH := hH.call hF18
 refine Go3 7 6 (.int .u8 (y13 : Int)) 7 (Ni e14) 8 (fltV (erOf (escF s p1)) fb15) <| Dn <| sw_sr <| Go1 1 60 (fltV (erOf (escF s p1)) fb15) <| Gq rfl (rd_if_ne (by kernel_rfl) rfl) <| Dn <| If rfl (fun hc4 => ?_) (fun hc4 => ?_)
 obtain ⟨er4, hR4⟩ := hv16.resolve_right (fun h => by rw [h.1] at hc4; cases hc4)
 refine sw_sr <| Go1 2 2 (fltV (erOf (escF s p1)) fb15) <| Dn <| Rt1 rfl rfl ?_
 replace hH := hH.fr5
 replace hH := (hH.sb (slk sln)).n1
 rw [hR4] at hH ⊢
 exact tk_errO (by unfold litR; rw [hm, litF_succ, if_neg (by omega), if_neg (by omega), if_pos (by omega), hR4]) hH.turned
 obtain ⟨hR4, hR4x, hR4p, hR4l⟩ := hv16.resolve_left (fun h => by obtain ⟨_, h⟩ := h; rw [h] at hc4; cases hc4)
 refine sw_skip <| bkN <| sw_next <| sw_seq <| sw_seq <| sw_sr <| Go1 3 65 (Pp g 0) <| Gq rfl (Lk 0 hH rfl rfl rfl) <| Go1 1 67 (Ni p1) <| Gq rfl (rd_sidx (by kernel_rfl) rfl p1 rfl (by omega)) <| glo 2 [(0, Pp g 0), (3, Pp b1 0), (4, .int .u8 ((gb s p : Nat) : Int)), (5, Ni p1), (6, .int .u8 (y13 : Int)), (7, Ni e14), (70, .bool (decide (((gb s p1 : Nat) : Int) < (32 : Int))))] <| Gi 70 rfl (fun hg5 => ?_) (fun hg5 => ?_)
 have hq5 := hg5
 refine Go1 8 78 (.bool true) <| Dn <| It <| sw_sr <| Go2 2 79 (Pp g 0) 80 (Ni p1) <| gl_st (Sc rfl rfl (LWrong_ct g p1 s _ (hH.blk_cell 0 rfl rfl) hs) ?_)
 rintro _ w20 ⟨fb19, rfl, hF21⟩
 replace hH := hH.call hF21
 refine Go1 1 2 (.iface 94 (Pp fb19 0)) <| Dn <| Rt1 rfl rfl ?_
 replace hH := hH.fr6
 replace hH := (hH.sb (slk sln)).n1
 exact tk_err (by unfold litR; rw [hm, litF_succ, if_neg (by omega), if_neg (by omega), if_pos (by omega), hR4]; simp only; rw [if_pos (by omega)]) hH.turned
 have hq5 := hg5
 refine Go1 3 73 (Pp g 0) <| Gq rfl (Lk 0 hH rfl rfl rfl) <| Go1 1 75 (Ni p1) <| Gq rfl (rd_sidx (by kernel_rfl) rfl p1 rfl (by omega)) <| Go1 2 78 (.bool (decide (((gb s p1 : Nat) : Int) > (126 : Int)))) <| Dn <| If rfl (fun hc7 => ?_) (fun hc7 => ?_)
 have hq7 := hc7
 refine sw_sr <| Go2 2 79 (Pp g 0) 80 (Ni p1) <| gl_st (Sc rfl rfl (LWrong_ct g p1 s _ (hH.blk_cell 0 rfl rfl) hs) ?_)
 rintro _ w23 ⟨fb22, rfl, hF24⟩
 replace hH := hH.call hF24
 refine Go1 1 2 (.iface 94 (Pp fb22 0)) <| Dn <| Rt1 rfl rfl ?_
 replace hH := hH.fr6
 replace hH := (hH.sb (slk sln)).n1
 exact tk_err (by unfold litR; rw [hm, litF_succ, if_neg (by omega), if_neg (by omega), if_pos (by omega), hR4]; simp only; rw [if_pos (by omega)]) hH.turned
 have hq7 := hc7
 refine Sk <| sw_seq <| sw_sr <| gl_st (Sc rfl rfl (BLen_ct b1 acc.length bv9 _ (hH.blk_cell 2 rfl rfl) (by obtain ⟨A9, c9, h9, _⟩ := hH.row_form 3 rfl; exact ⟨A9, c9, h9⟩)) ?_)
 rintro _ w25 ⟨rfl, hF26⟩
 replace hH := hH.call hF26
 refine Go1 1 83 (.bool (((acc.length : Nat) : Int) == (255 : Int))) <| Dn <| If rfl (fun hc8 => ?_) (fun hc8 => ?_)
 have hq8 := hc8
 refine sw_sr <| Go1 3 86 (Pp g 1) <| Gq rfl (Lk 0 hH rfl rfl rfl) <| gl_st (Sc rfl rfl (LFault_ct 2 (p : Int) _) ?_)
 rintro _ w28 ⟨fb27, rfl, hF29⟩
 replace hH := hH.call hF29
 refine Go1 1 2 (.iface 94 (Pp fb27 0)) <| Dn <| Rt1 rfl rfl ?_
 replace hH := hH.fr6
 replace hH := (hH.sb (slk sln)).n1
 exact tk_err (er := (2, p)) (by unfold litR; rw [hm, litF_succ, if_neg (by omega), if_neg (by omega), if_pos (by omega), hR4]; simp only; rw [if_neg (by omega), if_pos (by omega)]) hH.turned
 have hq8 := hc8
 refine Sk <| sw_sr <| Go1 1 89 (.int .u8 (y13 : Int)) ?_
 replace hH : Hp w w25 _ _ ([_, _] ++ [_, _, _]) := hH.fr4.fr4
 refine gl_st (Sc rfl rfl (WriteByte_ct b1 209 (ad) bv9 acc y13 _ had hH.mine lies_bd (by omega) (by omega)) ?_)
 rintro _ w31 ⟨v30, rfl, hF32⟩
 replace hH := hH.turns hF32
 replace hH := hH.n5
 refine Dn <| sw_region <| Go1 2 5 (Ni e14) <| Dd <| sw_next <| sw_exit <| bkH <| bkN <| rnd_end (g := (acc, p1, k, bv9, ad)) (acc ++ [UInt8.ofNat y13], e14, k - 1, v30, Pp b1 0) (by kernel_rfl) ?_ ?_
 replace hH := hH.fr5.fr5.fr4.fr4
 replace hH := (hH.sb (slk (slk (slk (slk sln))))).n4
 · exact ⟨by rw [hm, litF_succ, if_neg (by omega), if_neg (by omega), if_pos (by omega), hR4, show k - 1 + 1 = k from by omega]; simp only; rw [if_neg (by omega), if_neg (by omega)], by omega, by omega, by omega, by simp; omega, .inr rfl, .inl (by simp), hH⟩
 · show k - 1 < k; omega
 have hq3 := hc3
 refine Sk <| sw_exit <| bkX rfl <| thX <| bkX rfl <| thX <| bkH <| sw_next <| sw_seq <| sw_seq <| sw_sr <| Go1 3 65 (Pp g 0) <| Gq rfl (Lk 0 hH rfl rfl rfl) <| Go1 1 67 (Ni p1) <| Gq rfl (rd_sidx (by kernel_rfl) rfl p1 rfl (by omega)) <| Go1 2 70 (.bool (decide (((gb s p1 : Nat) : Int) < (32 : Int)))) <| Gi 70 rfl (fun hg9 => ?_) (fun hg9 => ?_)
 have hq9 := hg9
 refine Go1 8 78 (.bool true) <| Dn <| It <| sw_sr <| Go2 2 79 (Pp g 0) 80 (Ni p1) <| gl_st (Sc rfl rfl (LWrong_ct g p1 s _ (hH.blk_cell 0 rfl rfl) hs) ?_)
 rintro _ w34 ⟨fb33, rfl, hF35⟩
 replace hH := hH.call hF35
 refine Go1 1 2 (.iface 94 (Pp fb33 0)) <| Dn <| Rt1 rfl rfl ?_
 replace hH := hH.fr5
 replace hH := (hH.sb (slk sln)).n1
 exact tk_err (by unfold litR; rw [hm, litF_succ, if_neg (by omega), if_neg (by omega), if_neg (by omega)]; simp only; rw [if_pos (by omega)]) hH.turned
 have hq9 := hg9
 refine Go1 3 73 (Pp g 0) <| Gq rfl (Lk 0 hH rfl rfl rfl) <| Go1 1 75 (Ni p1) <| Gq rfl (rd_sidx (by kernel_rfl) rfl p1 rfl (by omega)) <| Go1 2 78 (.bool (decide (((gb s p1 : Nat) : Int) > (126 : Int)))) <| Dn <| If rfl (fun hc11 => ?_) (fun hc11 => ?_)
 have hq11 := hc11
 refine sw_sr <| glo 2 [(79, Pp g 0), (80, Ni p1)] <| gl_st (Sc rfl rfl (LWrong_ct g p1 s _ (hH.blk_cell 0 rfl rfl) hs) ?_)
 rintro _ w37 ⟨fb36, rfl, hF38⟩
 replace hH := hH.call hF38
 refine Go1 1 2 (.iface 94 (Pp fb36 0)) <| Dn <| Rt1 rfl rfl ?_
 replace hH := hH.fr5
 replace hH := (hH.sb (slk sln)).n1
 exact tk_err (by unfold litR; rw [hm, litF_succ, if_neg (by omega), if_neg (by omega), if_neg (by omega)]; simp only; rw [if_pos (by omega)]) hH.turned
 have hq11 := hc11
 refine Sk <| sw_seq <| sw_sr <| gl_st (Sc rfl rfl (BLen_ct b1 acc.length bv9 _ (hH.blk_cell 2 rfl rfl) (by obtain ⟨A9, c9, h9, _⟩ := hH.row_form 3 rfl; exact ⟨A9, c9, h9⟩)) ?_)
 rintro _ w39 ⟨rfl, hF40⟩
 replace hH := hH.call hF40
 refine glo 1 [(0, Pp g 0), (3, Pp b1 0), (4, .int .u8 ((gb s p : Nat) : Int)), (6, .int .u8 ((gb s p1 : Nat) : Int)), (7, Ni (p1 + 1)), (83, .bool (((acc.length : Nat) : Int) == (255 : Int)))] <| Dn <| If rfl (fun hc12 => ?_) (fun hc12 => ?_)
 have hq12 := hc12
 refine sw_sr <| Go1 3 86 (Pp g 1) <| Gq rfl (Lk 0 hH rfl rfl rfl) <| gl_st (Sc rfl rfl (LFault_ct 2 (p : Int) _) ?_)
 rintro _ w42 ⟨fb41, rfl, hF43⟩
 replace hH := hH.call hF43
 refine Go1 1 2 (.iface 94 (Pp fb41 0)) <| Dn <| Rt1 rfl rfl ?_
 replace hH := hH.fr5
 replace hH := (hH.sb (slk sln)).n1
 exact tk_err (er := (2, p)) (by unfold litR; rw [hm, litF_succ, if_neg (by omega), if_neg (by omega), if_neg (by omega)]; simp only; rw [if_neg (by omega), if_pos (by omega)]) hH.turned
 have hq12 := hc12
 refine Sk <| sw_sr <| Go1 1 89 (.int .u8 ((gb s p1 : Nat) : Int)) ?_
 replace hH : Hp w w39 _ _ ([_, _] ++ [_, _]) := hH.fr4.fr4
 refine gl_st (Sc rfl rfl (WriteByte_ct b1 209 (ad) bv9 acc (gb s p1) _ had hH.mine lies_bd (by omega) (by omega)) ?_)
 rintro _ w45 ⟨v44, rfl, hF46⟩
 replace hH := hH.turns hF46
 replace hH := hH.n4
 refine Dn <| sw_region <| Go1 2 5 (Ni (p1 + 1)) <| Dd <| sw_next <| sw_exit <| bkH <| bkN <| rnd_end (g := (acc, p1, k, bv9, ad)) (acc ++ [UInt8.ofNat (gb s p1)], p1 + 1, k - 1, v44, Pp b1 0) (by kernel_rfl) ?_ ?_
 replace hH := (hH.sb (slk (slk (slk (slk sln))))).n4
 · exact ⟨by rw [hm, litF_succ, if_neg (by omega), if_neg (by omega), if_neg (by omega), show k - 1 + 1 = k from by omega]; simp only; rw [if_neg (by omega), if_neg (by omega)], by omega, by omega, by omega, by simp; omega, .inr rfl, .inl (by simp), hH⟩
 · show k - 1 < k; omega
end Go.Proofs.YtllfpnbhjfadiaaGreatDoor
/- Layer 3 (lex): classes: what the program's functions answer. -/
set_option maxRecDepth 100000
set_option maxHeartbeats 2000000
set_option linter.unusedVariables false
set_option linter.unusedSimpArgs false
namespace Go.Proofs.YtllfpnbhjfadiaaGreatDoor
open Go.RowKit Go.SW
theorem wrongC_le (s : List UInt8) (p : Nat) : (wrongC s p).2 ≤ s.length := by
  unfold wrongC
  split
  · exact Nat.le_refl _
  · show p ≤ _; omega
theorem rsignC_ok {s : List UInt8} {p x e : Nat} (h : rsignC s p = .ok (x, e)) : p < e ∧ e ≤ s.length := by
  unfold rsignC at h
  split at h
  · split at h
    · cases h
    · simp only [Except.ok.injEq, Prod.mk.injEq] at h; omega
  · split at h
    · rename_i h2; have := pickI_in h2; simp only [Except.ok.injEq, Prod.mk.injEq] at h; omega
    · split at h
      · rename_i h3; have := pickI_in h3; simp only [Except.ok.injEq, Prod.mk.injEq] at h; omega
      · split at h
        · cases h
        · split at h
          · cases h
          · split at h
            · cases h
            · rename_i h6; have := pickI_in (s := s) (p := p + 3) (Int.not_lt.1 h6); simp only [Except.ok.injEq, Prod.mk.injEq] at h; omega
theorem rsignC_err {s : List UInt8} {p : Nat} {er : Nat × Nat} (h : rsignC s p = .error er) : er.2 ≤ s.length := by
  have hw := wrongC_le s
  unfold rsignC at h
  split at h
  · split at h
    · cases h; exact hw _
    · cases h
  · split at h
    · cases h
    · split at h
      · cases h
      · split at h
        · cases h; exact hw _
        · split at h
          · cases h; exact hw _
          · split at h
            · cases h; exact hw _
            · cases h
theorem memC_ok {s : List UInt8} {p e : Nat} {c : Cl} (h : memC s p = .ok (c, e)) : p < e ∧ e ≤ s.length := by
  unfold memC at h
  split at h
  · cases h
  · rename_i lo e1 h1
    have h2 := rsignC_ok h1
    split at h
    · split at h
      · cases h
      · rename_i hi e2 h3
        have h4 := rsignC_ok h3
        split at h
        · cases h
        · simp only [Except.ok.injEq, Prod.mk.injEq] at h; omega
    · simp only [Except.ok.injEq, Prod.mk.injEq] at h; omega
theorem memC_err {s : List UInt8} {p : Nat} (hp : p ≤ s.length) {er : Nat × Nat} (h : memC s p = .error er) : er.2 ≤ s.length := by
  unfold memC at h
  split at h
  · rename_i h1; cases h; exact rsignC_err h1
  · split at h
    · split at h
      · rename_i h1; cases h; exact rsignC_err h1
      · split at h
        · cases h; exact hp
        · cases h
    · cases h
theorem memsC_err {s : List UInt8} : ∀ (k : Nat) (c : Cl) (p : Nat), p ≤ s.length → ∀ er, memsC s k c p = .error er → er.2 ≤ s.length
  | 0, c, p, _, er, h => by cases h; exact Nat.zero_le _
  | k + 1, c, p, hp, er, h => by
    rw [memsC] at h
    split at h
    · split at h
      · rename_i h1; cases h; exact memC_err hp h1
      · rename_i m e h1; exact memsC_err k _ e (memC_ok h1).2 er h
    · cases h
theorem parseC_err {s : List UInt8} {er : Nat × Nat} (h : parseC s = .error er) : er.2 ≤ s.length := by
  unfold parseC at h
  split at h
  · cases h; exact wrongC_le _ _
  · rename_i h0
    have h1 := pickI_in (s := s) (Int.not_lt.1 h0)
    split at h
    · rename_i h2; cases h; exact memsC_err _ _ _ (pickP_in [94] (by omega)).2 _ h2
    · cases h
def clsR (s : List UInt8) (p : Nat) : Except (Nat × Nat) (Tk × Nat) :=
  match parseC (s.drop p) with
  | .error (c, a) => .error (c, p + a)
  | .ok (c, u) => .ok (⟨4, [], c, p⟩, p + u)

theorem AsN_ct (b : Nat) (w : World) :
    Fun Tryz.prog 38 [.nilIface, .iface 95 (.pointer (some ⟨b, 0, none⟩))] w fun v w' => v = .bool false ∧ Fresh w w' [] := by
 refine fun_of_sw Tryz.func38 rfl 42 rfl rfl ?_
 have hH := Hp.start w
 refine sw_sr <| Go0 1 <| Dn <| sw_seq <| sw_sr <| Go1 2 9 (.bool true) <| Dn <| It <| sw_sr <| Go1 1 4 (.bool false) <| Dn <| Rt1 rfl rfl ?_
 exact ⟨rfl, (hH.sb sln).fresh⟩
def asP (er : Option (Nat × Int)) (fb : Nat) : Value := match er with | none => .pointer none | some _ => .pointer (some ⟨fb, 0, none⟩)
theorem AsF_ct (er : Option (Nat × Int)) (fb b : Nat) (w : World) (hM : Mine w [.blk b 94 [.pointer none]]) (hg : off w (blksOf [.blk b 94 [.pointer none]]) ⟨0, 0, none⟩ = some errTy) :
    Fun Tryz.prog 38 [fltV er fb, .iface 95 (.pointer (some ⟨b, 0, none⟩))] w fun v w' => v = .bool er.isSome ∧ Turn w w' [.blk b 94 [.pointer none]] [.blk b 94 [asP er fb]] := by
  cases er with
  | some p => exact As_ct ⟨fb, 0, none⟩ b w hM hg
  | none =>
    refine Calls.mono (AsN_ct b w) ?_
    rintro ev w' ⟨v, rfl, rfl, hf⟩
    refine ⟨_, rfl, rfl, ?_⟩
    have h := (Hp.start_mine hM).call hf
    exact (h.sublist (List.Sublist.refl _)).turned

theorem LClass_ct (g p : Nat) (s : List UInt8) (v : Value) (l : List Tk) (w : World) (hM : Mine w [cutO g s p v, tksO v l]) (hg0 : off w (blksOf [cutO g s p v, tksO v l]) ⟨0, 0, none⟩ = some errTy) (hs : s.length ≤ 140737488355328) (hn : l.length ≤ 8193) (hp : p < s.length) :
    Fun Tryz.prog 141 [Pp g 0] w fun x w' => TkPost g p s v l (clsR s p) w x w' := by
 refine fun_of_sw Tryz.func141 rfl 48 rfl rfl ?_
 have hH := Hp.start_mine hM
 refine sw_sr <| Go0 1 <| Dn <| sw_seq <| Dr hH (slk (slk sln)) ?_
 clear hH; intro w1 hH hS9
 refine Gp1 3 [0,1,2] 10 (Pp g 0) hS9 <| Dq 3 rfl (fun _ hS => (Lk 0 hS rfl rfl rfl)) hS9 <| Gp1 3 [4,5,6] 14 (Pp g 1) hS9 <| Dq 7 rfl (fun _ hS => (Lk 0 hS rfl rfl rfl)) hS9 <| Dq 8 rfl (fun _ hS => (rd_scut (by kernel_rfl) rfl (.inr ⟨_, _, rfl, rfl⟩) (.inl ⟨rfl, rfl⟩) (by omega) (by omega))) hS9 <| gd_cv 16 (.string (bs (s.drop p))) (by rw [List.take_of_length_le (by simp)]) rfl <| gd_st2 9 14 (by kernel_rfl) ?_ ?_
 refine Sc rfl rfl (CParse_ct (s.drop p) _ (by simp; omega)) ?_
 rintro _ w6 ⟨c2, e3, fb4, rfl, hv5, hF7⟩
 replace hH := hH.call hF7
 refine Nl (hH.sb (slk (slk sln))) fun hS9 => gdk [(0, Pp g 0), (17, .tuple #[.agg #[.int .u64 ((c2.a : Nat) : Int), .int .u64 ((c2.b : Nat) : Int), .int .u64 ((c2.c : Nat) : Int), .int .u64 ((c2.d : Nat) : Int)], Ni e3, fltV (erOf (parseC (s.drop p))) fb4])] <| Gp3 4 [10,11,12,13] 18 (.agg #[.int .u64 ((c2.a : Nat) : Int), .int .u64 ((c2.b : Nat) : Int), .int .u64 ((c2.c : Nat) : Int), .int .u64 ((c2.d : Nat) : Int)]) 19 (Ni e3) 20 (fltV (erOf (parseC (s.drop p))) fb4) hS9 <| gds 14 (Alc [.int .u64 0, .int .u64 0, .int .u64 0, .int .u64 0] rfl hH ?_)
 clear hH; intro b8 w9 hH
 refine Nl (hH.sb (slk (slk sln))) fun hS9 => gds 15 (Ka 3 [.int .u64 ((c2.a : Nat) : Int), .int .u64 ((c2.b : Nat) : Int), .int .u64 ((c2.c : Nat) : Int), .int .u64 ((c2.d : Nat) : Int)] [.int .u64 ((c2.a : Nat) : Int), .int .u64 ((c2.b : Nat) : Int), .int .u64 ((c2.c : Nat) : Int), .int .u64 ((c2.d : Nat) : Int)] rfl hH rfl rfl ?_)
 clear hH; intro w10 hH
 refine Nl (hH.sb (slk (slk sln))) fun hS9 => Gp2 2 [16,17] 4 (Ni e3) 5 (fltV (erOf (parseC (s.drop p))) fb4) hS9 <| gdn [(0, Pp g 0), (3, Pp b8 0), (4, Ni e3), (5, fltV (erOf (parseC (s.drop p))) fb4)] <| sw_next <| sw_sr <| gl_st (Alc [.pointer none] rfl hH ?_)
 clear hH; intro b11 w12 hH
 refine Dn <| sw_seq <| sw_sr <| Go2 2 21 (fltV (erOf (parseC (s.drop p))) fb4) 22 (.iface 95 (Pp b11 0)) ?_
 replace hH : Hp w w12 _ _ ([_] ++ [_, _, _, _]) := hH.fr5
 refine gl_st (Sc rfl rfl (AsF_ct (erOf (parseC (s.drop p))) fb4 b11 _ hH.mine (hH.zoff _ _ hg0)) ?_)
 rintro _ w13 ⟨rfl, hF14⟩
 replace hH := hH.turns hF14
 replace hH := hH.n5
 refine Dn <| If rfl (fun hc1 => ?_) (fun hc1 => ?_)
 obtain ⟨er, hR⟩ := hv5.resolve_right (fun h => by rw [h.1] at hc1; cases hc1)
 have herl := parseC_err hR
 rw [List.length_drop] at herl
 replace hH := hH.fr5.fr4
 rw [hR] at hH
 replace hH : Hp _ _ _ _ (.grp [.blk fb4 97 [.int .i64 ((er.1 : Nat) : Int), .int .i64 ((er.2 : Nat) : Int)]] :: .blk b11 94 [.pointer (some ⟨fb4, 0, none⟩)] :: _) := hH
 replace hH := hH.open_
 replace hH : Hp w w13 _ _ [.blk fb4 97 [Ni er.1, Ni er.2], .blk b11 94 [Pp fb4 0], .blk g 190 [.string (bs s), Ni p, v], .row v 131 7 l.length (rowC tkC l), .blk b8 38 [.int .u64 ((c2.a : Nat) : Int), .int .u64 ((c2.b : Nat) : Int), .int .u64 ((c2.c : Nat) : Int), .int .u64 ((c2.d : Nat) : Int)]] := hH
 refine sw_seq <| Dr hH (slk (slk (slk (slk (slk sln))))) ?_
 clear hH; intro w15 hH hS9
 refine Dq 0 rfl (fun _ hS => (Lk 1 hS rfl rfl rfl)) hS9 <| Gp1 2 [1,2] 26 (Pp fb4 0) hS9 <| Dq 3 rfl (fun _ hS => (Lk 0 hS rfl rfl rfl)) hS9 <| Gp1 3 [4,5,6] 30 (Pp g 1) hS9 <| Dq 7 rfl (fun _ hS => (Lk 2 hS rfl rfl rfl)) hS9 <| Dq 8 rfl (fun _ hS => (Lk 1 hS rfl rfl rfl)) hS9 <| Gp1 2 [9,10] 34 (Pp fb4 1) hS9 <| Dq 11 rfl (fun _ hS => (Lk 0 hS rfl rfl rfl)) hS9 <| Dw0 1 [12] 36 ((p : Int) + ((er.2 : Nat) : Int)) ((p + er.2 : Nat) : Int) hS9 <| gds 13 (Sc rfl rfl (LFault_ct er.1 ((p + er.2 : Nat) : Int) _) ?_)
 rintro _ w17 ⟨fb16, rfl, hF18⟩
 replace hH := hH.call hF18
 refine Nl (hH.sb (slk (slk (slk (slk (slk sln)))))) fun hS9 => Gp1 1 [14] 2 (.iface 94 (Pp fb16 0)) hS9 <| gdn [(2, .iface 94 (Pp fb16 0))] <| sw_next <| Rt1 rfl rfl ?_
 replace hH := hH.fr6
 replace hH := (hH.sb (slk sln)).n1
 exact tk_err (er := (er.1, p + er.2)) (by unfold clsR; rw [hR]) hH.turned
 obtain ⟨hR, hok, he0, hel⟩ := hv5.resolve_left (fun h => by obtain ⟨_, h⟩ := h; rw [h] at hc1; cases hc1)
 rw [List.length_drop] at hel
 refine Sk <| sw_seq <| Dr hH (slc (slc (slk (slk (slk sln))))) ?_
 clear hH; intro w19 hH hS9
 refine Gp1 1 [0] 38 (Pp g 0) hS9 <| Dq 1 rfl (fun _ hS => (La 1 [.int .u64 ((c2.a : Nat) : Int), .int .u64 ((c2.b : Nat) : Int), .int .u64 ((c2.c : Nat) : Int), .int .u64 ((c2.d : Nat) : Int)] hS rfl rfl)) hS9 <| Gp3 5 [2,3,4,5,7] 40 (.agg #[.int .i64 4, .string (bs []), .int .u64 ((c2.a : Nat) : Int), .int .u64 ((c2.b : Nat) : Int), .int .u64 ((c2.c : Nat) : Int), .int .u64 ((c2.d : Nat) : Int), .int .i64 0]) 43 (Pp g 1) 45 (Ni e3) hS9 <| gds 6 (st_q rfl rfl rfl (Lk 0 hH rfl rfl rfl) ?_)
 refine Nl hS9 fun hS9 => Dw0 1 [8] 46 ((p : Int) + (e3 : Int)) ((p + e3 : Nat) : Int) hS9 ?_
 replace hH : Hp w w19 _ _ ([_, _] ++ [_, _, _]) := hH
 refine gds 9 (Sc rfl rfl (LAdd_ct g p (p + e3) s v l ⟨4, [], c2, 0⟩ 0 _ hH.mine hn) ?_)
 rintro _ w21 ⟨v20, rfl, hF22⟩
 replace hH := hH.turns hF22
 replace hH := hH.n5
 refine Nl (hH.sb (slk (slk (slk sln)))) fun hS9 => gdn [] <| sw_next <| sw_sr <| Go1 1 2 (.nilIface) <| Dn <| Rt1 rfl rfl ?_
 replace hH := hH.fr5.fr5
 replace hH := (hH.sb (slk (slk sln))).n2
 exact tk_ok (by unfold clsR; rw [hR]) (by omega) (by omega) (Nat.zero_le _) hok hH.turned
 refine Alc [.int .u64 0, .int .u64 0, .int .u64 0, .int .u64 0] rfl hH ?_
 clear hH; intro b23 w24 hH
 refine Nl (hH.sb (slk (slk sln))) fun hS9 => gdk [(0, Pp g 0), (3, Pp b23 0), (16, .string (bs (s.drop p)))] <| gds 9 (Sc rfl rfl (CParse_ct (s.drop p) _ (by simp; omega)) ?_)
 rintro _ w29 ⟨c25, e26, fb27, rfl, hv28, hF30⟩
 replace hH := hH.call hF30
 refine Nl (hH.sb (slk (slk sln))) fun hS9 => Gp3 4 [10,11,12,13] 18 (.agg #[.int .u64 ((c25.a : Nat) : Int), .int .u64 ((c25.b : Nat) : Int), .int .u64 ((c25.c : Nat) : Int), .int .u64 ((c25.d : Nat) : Int)]) 19 (Ni e26) 20 (fltV (erOf (parseC (s.drop p))) fb27) hS9 <| gds 15 (Ka 2 [.int .u64 ((c25.a : Nat) : Int), .int .u64 ((c25.b : Nat) : Int), .int .u64 ((c25.c : Nat) : Int), .int .u64 ((c25.d : Nat) : Int)] [.int .u64 ((c25.a : Nat) : Int), .int .u64 ((c25.b : Nat) : Int), .int .u64 ((c25.c : Nat) : Int), .int .u64 ((c25.d : Nat) : Int)] rfl hH rfl rfl ?_)
 clear hH; intro w31 hH
 refine Nl (hH.sb (slk (slk sln))) fun hS9 => Gp2 2 [16,17] 4 (Ni e26) 5 (fltV (erOf (parseC (s.drop p))) fb27) hS9 <| gdn [(0, Pp g 0), (3, Pp b23 0), (4, Ni e26), (5, fltV (erOf (parseC (s.drop p))) fb27)] <| sw_next <| sw_sr <| gl_st (Alc [.pointer none] rfl hH ?_)
 clear hH; intro b32 w33 hH
 refine Dn <| sw_seq <| sw_sr <| Go2 2 21 (fltV (erOf (parseC (s.drop p))) fb27) 22 (.iface 95 (Pp b32 0)) ?_
 replace hH : Hp w w33 _ _ ([_] ++ [_, _, _, _]) := hH.fr5
 refine gl_st (Sc rfl rfl (AsF_ct (erOf (parseC (s.drop p))) fb27 b32 _ hH.mine (hH.zoff _ _ hg0)) ?_)
 rintro _ w34 ⟨rfl, hF35⟩
 replace hH := hH.turns hF35
 replace hH := hH.n5
 refine Dn <| If rfl (fun hc2 => ?_) (fun hc2 => ?_)
 obtain ⟨er, hR⟩ := hv28.resolve_right (fun h => by rw [h.1] at hc2; cases hc2)
 have herl := parseC_err hR
 rw [List.length_drop] at herl
 replace hH := hH.fr5.fr5
 rw [hR] at hH
 replace hH : Hp _ _ _ _ (.grp [.blk fb27 97 [.int .i64 ((er.1 : Nat) : Int), .int .i64 ((er.2 : Nat) : Int)]] :: .blk b32 94 [.pointer (some ⟨fb27, 0, none⟩)] :: _) := hH
 replace hH := hH.open_
 replace hH : Hp w w34 _ _ [.blk fb27 97 [Ni er.1, Ni er.2], .blk b32 94 [Pp fb27 0], .blk g 190 [.string (bs s), Ni p, v], .row v 131 7 l.length (rowC tkC l), .blk b23 38 [.int .u64 ((c25.a : Nat) : Int), .int .u64 ((c25.b : Nat) : Int), .int .u64 ((c25.c : Nat) : Int), .int .u64 ((c25.d : Nat) : Int)]] := hH
 refine sw_seq <| Dr hH (slk (slk (slk (slk (slk sln))))) ?_
 clear hH; intro w36 hH hS9
 refine Dq 0 rfl (fun _ hS => (Lk 1 hS rfl rfl rfl)) hS9 <| Gp1 2 [1,2] 26 (Pp fb27 0) hS9 <| Dq 3 rfl (fun _ hS => (Lk 0 hS rfl rfl rfl)) hS9 <| Gp1 3 [4,5,6] 30 (Pp g 1) hS9 <| Dq 7 rfl (fun _ hS => (Lk 2 hS rfl rfl rfl)) hS9 <| Dq 8 rfl (fun _ hS => (Lk 1 hS rfl rfl rfl)) hS9 <| Gp1 2 [9,10] 34 (Pp fb27 1) hS9 <| Dq 11 rfl (fun _ hS => (Lk 0 hS rfl rfl rfl)) hS9 <| Dw0 1 [12] 36 ((p : Int) + ((er.2 : Nat) : Int)) ((p + er.2 : Nat) : Int) hS9 <| gds 13 (Sc rfl rfl (LFault_ct er.1 ((p + er.2 : Nat) : Int) _) ?_)
 rintro _ w38 ⟨fb37, rfl, hF39⟩
 replace hH := hH.call hF39
 refine Nl (hH.sb (slk (slk (slk (slk (slk sln)))))) fun hS9 => Gp1 1 [14] 2 (.iface 94 (Pp fb37 0)) hS9 <| gdn [(2, .iface 94 (Pp fb37 0))] <| sw_next <| Rt1 rfl rfl ?_
 replace hH := hH.fr6
 replace hH := (hH.sb (slk sln)).n1
 exact tk_err (er := (er.1, p + er.2)) (by unfold clsR; rw [hR]) hH.turned
 obtain ⟨hR, hok, he0, hel⟩ := hv28.resolve_left (fun h => by obtain ⟨_, h⟩ := h; rw [h] at hc2; cases hc2)
 rw [List.length_drop] at hel
 refine Sk <| sw_seq <| Dr hH (slc (slc (slk (slk (slk sln))))) ?_
 clear hH; intro w40 hH hS9
 refine Gp1 1 [0] 38 (Pp g 0) hS9 <| Dq 1 rfl (fun _ hS => (La 0 [.int .u64 ((c25.a : Nat) : Int), .int .u64 ((c25.b : Nat) : Int), .int .u64 ((c25.c : Nat) : Int), .int .u64 ((c25.d : Nat) : Int)] hS rfl rfl)) hS9 <| Gp3 5 [2,3,4,5,7] 40 (.agg #[.int .i64 4, .string (bs []), .int .u64 ((c25.a : Nat) : Int), .int .u64 ((c25.b : Nat) : Int), .int .u64 ((c25.c : Nat) : Int), .int .u64 ((c25.d : Nat) : Int), .int .i64 0]) 43 (Pp g 1) 45 (Ni e26) hS9 <| gds 6 (st_q rfl rfl rfl (Lk 0 hH rfl rfl rfl) ?_)
 refine Nl hS9 fun hS9 => Dw0 1 [8] 46 ((p : Int) + (e26 : Int)) ((p + e26 : Nat) : Int) hS9 ?_
 replace hH : Hp w w40 _ _ ([_, _] ++ [_, _, _]) := hH
 refine gds 9 (Sc rfl rfl (LAdd_ct g p (p + e26) s v l ⟨4, [], c25, 0⟩ 0 _ hH.mine hn) ?_)
 rintro _ w42 ⟨v41, rfl, hF43⟩
 replace hH := hH.turns hF43
 replace hH := hH.n5
 refine Nl (hH.sb (slk (slk (slk sln)))) fun hS9 => gdn [] <| sw_next <| sw_sr <| Go1 1 2 (.nilIface) <| Dn <| Rt1 rfl rfl ?_
 replace hH := hH.fr5.fr5
 replace hH := (hH.sb (slk (slk sln))).n2
 exact tk_ok (by unfold clsR; rw [hR]) (by omega) (by omega) (Nat.zero_le _) hok hH.turned
end Go.Proofs.YtllfpnbhjfadiaaGreatDoor
/- Layer 3 (lex): tokens: what the program's functions answer. -/
set_option maxRecDepth 100000
set_option maxHeartbeats 2000000
set_option linter.unusedVariables false
set_option linter.unusedSimpArgs false
namespace Go.Proofs.YtllfpnbhjfadiaaGreatDoor
open Go.RowKit Go.SW
theorem nameN_le (l : List UInt8) : nameN l ≤ l.length := by
  unfold nameN
  cases h : (List.range l.length).find? fun i => !okN l i with
  | none => exact Nat.le_refl _
  | some i => have := List.mem_range.1 (List.mem_of_find?_eq_some h); simp only [Option.getD_some]; omega
theorem sign_ascii : ∀ b : Fin 256, 0 ≤ Lib.indexByte signX (UInt8.ofNat b.val) → b.val < 128 := by decide +kernel
theorem gb_drop0 (s : List UInt8) (p : Nat) : gb (s.drop p) 0 = gb s p := by unfold gb; simp [List.getElem?_drop]
theorem pre_len {s q : List UInt8} (h : Lib.hasPrefix s q = true) : q.length ≤ s.length := by
  unfold Lib.hasPrefix at h
  simp at h
  exact h.length_le

theorem LToken_ct (g p : Nat) (s : List UInt8) (v : Value) (l : List Tk) (w : World) (hM : Mine w [cutO g s p v, tksO v l]) (hg0 : off w (blksOf [cutO g s p v, tksO v l]) ⟨0, 0, none⟩ = some errTy) (hs : s.length ≤ 140737488355328) (hn : l.length ≤ 8193) (hp : p < s.length) :
    Fun Tryz.prog 102 [Pp g 0] w fun x w' => TkPost g p s v l (tokenF s p) w x w' := by
 refine fun_of_sw Tryz.func102 rfl 88 rfl rfl ?_
 have hH := Hp.start_mine hM
 have hnl := nameN_le (s.drop p)
 rw [List.length_drop] at hnl
 have hdl : (s.drop p).length = s.length - p := List.length_drop ..
 have hgp := gb_lt s p
 refine sw_sr <| Go0 1 <| Dn <| sw_seq <| Dr hH (slk (slk sln)) ?_
 clear hH; intro w1 hH hS9
 refine Gp1 3 [0,1,2] 8 (Pp g 0) hS9 <| Dq 3 rfl (fun _ hS => (Lk 0 hS rfl rfl rfl)) hS9 <| Gp1 3 [4,5,6] 12 (Pp g 1) hS9 <| Dq 7 rfl (fun _ hS => (Lk 0 hS rfl rfl rfl)) hS9 <| Dq 8 rfl (fun _ hS => (rd_scut (by kernel_rfl) rfl (.inr ⟨_, _, rfl, rfl⟩) (.inl ⟨rfl, rfl⟩) (by omega) (by omega))) hS9 <| gd_cv 14 (.string (bs (s.drop p))) (by rw [List.take_of_length_le (by simp)]) rfl <| Gp1 1 [9] 3 (.string (bs (s.drop p))) hS9 <| gdn [(0, Pp g 0), (3, .string (bs (s.drop p)))] <| sw_next <| sw_sr <| Go1 1 15 (.string (bs (s.drop p))) <| gl_st (Sc rfl rfl (LexName0_ct (s.drop p) _ (by first | omega | (simp <;> omega))) ?_)
 rintro _ w2 ⟨rfl, hF3⟩
 replace hH := hH.call hF3
 refine Go1 1 4 (Ni (nameN (s.drop p))) <| Dn <| sw_seq <| sw_sr <| Go1 1 17 (.string (bs (s.drop p))) <| Gq rfl (rd_sidx (by kernel_rfl) rfl 0 rfl (by omega)) <| gl_cv 18 (.int .u8 ((gb s p : Nat) : Int)) (by rw [gb_drop0]) rfl <| Go1 1 5 (.int .u8 ((gb s p : Nat) : Int)) <| Dn <| sw_block <| sw_sr <| Go1 3 24 (.bool (decide (((nameN (s.drop p) : Nat) : Int) > (32 : Int)))) <| Dn <| If rfl (fun hc1 => ?_) (fun hc1 => ?_)
 have h32 := hc1
 refine sw_sr <| Go1 3 29 (Pp g 1) <| Gq rfl (Lk 0 hH rfl rfl rfl) <| gl_st (Sc rfl rfl (LFault_ct 2 (p : Int) _) ?_)
 rintro _ w5 ⟨fb4, rfl, hF6⟩
 replace hH := hH.call hF6
 refine Go1 1 2 (.iface 94 (Pp fb4 0)) <| Dn <| Rt1 rfl rfl ?_
 replace hH := hH.fr3
 replace hH := (hH.sb (slk sln)).n1
 exact tk_err (er := (2, p)) (by unfold tokenF; rw [if_pos (by omega)]) hH.turned
 have h32 := hc1
 refine sw_sr <| Go1 3 32 (.bool (decide (((nameN (s.drop p) : Nat) : Int) > (0 : Int)))) <| Dn <| If rfl (fun hc2 => ?_) (fun hc2 => ?_)
 have hnm := hc2
 refine Dr hH sln ?_
 clear hH; intro w7 hH hS9
 refine Gp3 3 [0,1,2] 35 (Pp g 0) 36 (.string (bs (s.drop p))) 37 (Ni (nameN (s.drop p))) hS9 <| Dq 3 rfl (fun _ hS => (rd_scut (by kernel_rfl) rfl (.inl ⟨rfl, rfl⟩) (.inr ⟨_, _, rfl, rfl⟩) (by omega) (by omega))) hS9 <| gd_cv 38 (.string (bs ((s.drop p).take (nameN (s.drop p))))) (by rw [List.drop_zero, Nat.sub_zero]) rfl <| Gp2 4 [6,7,8,10] 43 (Pp g 1) 45 (Ni (nameN (s.drop p))) hS9 <| gd_st2 4 9 (by kernel_rfl) ?_ ?_
 refine Sc rfl rfl (StrClone_ct ((s.drop p).take (nameN (s.drop p))) _ (by first | omega | (simp <;> omega))) ?_
 rintro _ w8 ⟨rfl, hF9⟩
 replace hH := hH.call hF9
 refine Nl (hH.sb sln) fun hS9 => gdk [(35, Pp g 0), (39, .string (bs ((s.drop p).take (nameN (s.drop p))))), (43, Pp g 1), (45, Ni (nameN (s.drop p)))] <| Gp1 1 [5] 40 (.agg #[.int .i64 1, .string (bs ((s.drop p).take (nameN (s.drop p)))), .int .u64 0, .int .u64 0, .int .u64 0, .int .u64 0, .int .i64 0]) hS9 <| gds 9 (st_q rfl rfl rfl (Lk 0 hH rfl rfl rfl) ?_)
 refine Nl hS9 fun hS9 => Dw0 1 [11] 46 ((p : Int) + ((nameN (s.drop p) : Nat) : Int)) ((p + (nameN (s.drop p)) : Nat) : Int) hS9 ?_
 replace hH : Hp w w8 _ _ ([_, _] ++ []) := hH
 refine gds 12 (Sc rfl rfl (LAdd_ct g p (p + (nameN (s.drop p))) s v l ⟨1, (s.drop p).take (nameN (s.drop p)), Cl.zero, 0⟩ 0 _ hH.mine hn) ?_)
 rintro _ w11 ⟨v10, rfl, hF12⟩
 replace hH := hH.turns hF12
 replace hH := hH.n2
 refine Nl (hH.sb sln) fun hS9 => gdn [] <| bkN <| sw_next <| sw_sr <| Go1 1 2 (.nilIface) <| Dn <| Rt1 rfl rfl ?_
 replace hH := (hH.sb (slk (slk sln))).n2
 exact tk_ok (by unfold tokenF; rw [if_neg (by omega), if_pos (by omega)]) (by omega) (by omega) (by show (List.take _ _).length ≤ 8192; rw [List.length_take]; omega) Cl.zero_ok hH.turned
 refine st_q rfl rfl rfl (Lk 0 hH rfl rfl rfl) <| Nl hS9 fun hS9 => gdk [(35, Pp g 0), (38, .string (bs ((s.drop p).take (nameN (s.drop p))))), (44, Ni p), (45, Ni (nameN (s.drop p)))] <| Dw0 1 [11] 46 ((p : Int) + ((nameN (s.drop p) : Nat) : Int)) ((p + (nameN (s.drop p)) : Nat) : Int) hS9 <| gds 4 (Sc rfl rfl (StrClone_ct ((s.drop p).take (nameN (s.drop p))) _ (by first | omega | (simp <;> omega))) ?_)
 rintro _ w13 ⟨rfl, hF14⟩
 replace hH := hH.call hF14
 refine Nl (hH.sb sln) fun hS9 => ?_
 replace hH : Hp w w13 _ _ ([_, _] ++ []) := hH
 refine Gp1 1 [5] 40 (.agg #[.int .i64 1, .string (bs ((s.drop p).take (nameN (s.drop p)))), .int .u64 0, .int .u64 0, .int .u64 0, .int .u64 0, .int .i64 0]) hS9 <| gds 12 (Sc rfl rfl (LAdd_ct g p (p + (nameN (s.drop p))) s v l ⟨1, (s.drop p).take (nameN (s.drop p)), Cl.zero, 0⟩ 0 _ hH.mine hn) ?_)
 rintro _ w16 ⟨v15, rfl, hF17⟩
 replace hH := hH.turns hF17
 replace hH := hH.n2
 refine Nl (hH.sb sln) fun hS9 => gdn [] <| bkN <| sw_next <| sw_sr <| Go1 1 2 (.nilIface) <| Dn <| Rt1 rfl rfl ?_
 replace hH := (hH.sb (slk (slk sln))).n2
 exact tk_ok (by unfold tokenF; rw [if_neg (by omega), if_pos (by omega)]) (by omega) (by omega) (by show (List.take _ _).length ≤ 8192; rw [List.length_take]; omega) Cl.zero_ok hH.turned
 have hnm := hc2
 refine sw_sr <| Go1 1 49 (.int .u8 ((gb s p : Nat) : Int)) <| gl_st (Sc rfl rfl (IndexByte_ct [47, 38, 33, 63, 42, 43, 40, 41, 46] (gb s p) _) ?_)
 rintro _ w18 ⟨rfl, hF19⟩
 replace hH := hH.call hF19
 refine Go1 2 48 (.bool (decide ((Lib.indexByte [47, 38, 33, 63, 42, 43, 40, 41, 46] (UInt8.ofNat (gb s p))) ≥ (0 : Int)))) <| Dn <| If rfl (fun hc3 => ?_) (fun hc3 => ?_)
 have hsg := hc3
 refine sw_region <| Gc1 3 54 (.int .i32 (IntKind.i32.wrap ((gb s p : Nat) : Int))) (.int .i32 ((gb s p : Nat) : Int)) (cv_i32 (by omega)) 52 (Pp g 0) <| Gq rfl (rd_i2s (c := gb s p) rfl (sign_ascii ⟨gb s p, gb_lt _ _⟩ (by show 0 ≤ Lib.indexByte _ (UInt8.ofNat (gb s p)); omega)) (by kernel_rfl) (by kernel_rfl)) <| Go2 4 56 (.agg #[.int .i64 5, .string (bs [UInt8.ofNat (gb s p)]), .int .u64 0, .int .u64 0, .int .u64 0, .int .u64 0, .int .i64 0]) 59 (Pp g 1) <| Gq rfl (Lk 0 hH rfl rfl rfl) <| Gw0 1 61 ((p : Int) + 1) ((p + 1 : Nat) : Int) ?_
 replace hH : Hp w w18 _ _ ([_, _] ++ []) := hH
 refine gl_st (Sc rfl rfl (LAdd_ct g p (p + 1) s v l ⟨5, [UInt8.ofNat (gb s p)], Cl.zero, 0⟩ 0 _ hH.mine hn) ?_)
 rintro _ w21 ⟨v20, rfl, hF22⟩
 replace hH := hH.turns hF22
 replace hH := hH.n2
 refine Dd <| bkN <| sw_next <| sw_sr <| Go1 1 2 (.nilIface) <| Dn <| Rt1 rfl rfl ?_
 replace hH := (hH.sb (slk (slk sln))).n2
 exact tk_ok (by unfold tokenF; rw [if_neg (by omega), if_neg (by omega), if_pos (by show (0 ≤ Lib.indexByte [47, 38, 33, 63, 42, 43, 40, 41, 46] (UInt8.ofNat (gb s p))); omega)]) (by omega) (by omega) (by show _ ≤ 8192; simp) Cl.zero_ok hH.turned
 have hsg := hc3
 refine sw_sr <| Go1 1 64 (.string (bs (s.drop p))) <| gl_st (Sc rfl rfl (HasPre_ct (s.drop p) [60, 45] _) ?_)
 rintro _ w23 ⟨rfl, hF24⟩
 replace hH := hH.call hF24
 refine Go1 1 63 (.bool (Lib.hasPrefix (s.drop p) [60, 45])) <| Dn <| If rfl (fun hc4 => ?_) (fun hc4 => ?_)
 have hpre := hc4
 have hpl := pre_len hpre
 rw [hdl] at hpl
 simp only [List.length_cons, List.length_nil] at hpl
 refine sw_region <| Go3 5 66 (Pp g 0) 67 (.agg #[.int .i64 2, .string (bs []), .int .u64 0, .int .u64 0, .int .u64 0, .int .u64 0, .int .i64 0]) 70 (Pp g 1) <| Gq rfl (Lk 0 hH rfl rfl rfl) <| Gw0 1 72 ((p : Int) + 2) ((p + 2 : Nat) : Int) ?_
 replace hH : Hp w w23 _ _ ([_, _] ++ []) := hH
 refine gl_st (Sc rfl rfl (LAdd_ct g p (p + 2) s v l ⟨2, [], Cl.zero, 0⟩ 0 _ hH.mine hn) ?_)
 rintro _ w26 ⟨v25, rfl, hF27⟩
 replace hH := hH.turns hF27
 replace hH := hH.n2
 refine Dd <| bkN <| sw_next <| sw_sr <| Go1 1 2 (.nilIface) <| Dn <| Rt1 rfl rfl ?_
 replace hH := (hH.sb (slk (slk sln))).n2
 exact tk_ok (by unfold tokenF; rw [if_neg (by omega), if_neg (by omega), if_neg (by show ¬ (0 ≤ Lib.indexByte [47, 38, 33, 63, 42, 43, 40, 41, 46] (UInt8.ofNat (gb s p))); omega), if_pos hpre]) (by omega) (by omega) (by show _ ≤ 8192; simp) Cl.zero_ok hH.turned
 have hpre := hc4
 refine sw_sr <| Go1 3 77 (.bool (((gb s p : Nat) : Int) == (39 : Int))) <| Gi 77 rfl (fun hg5 => ?_) (fun hg5 => ?_)
 have hq9 := hg5
 refine Go1 4 74 (.bool true) <| Dn <| It <| sw_sr <| Go1 1 81 (Pp g 0) ?_
 replace hH : Hp w w23 _ _ ([_, _] ++ []) := hH
 refine gl_st (Sc rfl rfl (LLiteral_ct g p s v l _ hH.mine hs hn (by omega)) ?_)
 rintro _ w31 ⟨v28, fb29, rfl, hv30, hF32⟩
 replace hH := hH.turns hF32
 replace hH := hH.n2
 refine Go1 1 2 (fltV (erOf (litR s p)) fb29) <| Dn <| Rt1 rfl rfl ?_
 replace hH := (hH.sb (slk (slk sln))).n2
 have hT : tokenF s p = litR s p := by unfold tokenF; rw [if_neg (by omega), if_neg (by omega), if_neg (by show ¬ (0 ≤ Lib.indexByte [47, 38, 33, 63, 42, 43, 40, 41, 46] (UInt8.ofNat (gb s p))); omega), if_neg (by rw [hpre]; simp), if_pos (by omega)]; rfl
 rw [← hT] at hH hv30 ⊢
 exact ⟨v28, fb29, rfl, hv30, hH.turned⟩
 have hq9 := hg5
 refine Go1 4 74 (.bool (((gb s p : Nat) : Int) == (34 : Int))) <| Dn <| If rfl (fun hc7 => ?_) (fun hc7 => ?_)
 have hqt := hc7
 refine sw_sr <| Go1 1 81 (Pp g 0) ?_
 replace hH : Hp w w23 _ _ ([_, _] ++ []) := hH
 refine gl_st (Sc rfl rfl (LLiteral_ct g p s v l _ hH.mine hs hn (by omega)) ?_)
 rintro _ w36 ⟨v33, fb34, rfl, hv35, hF37⟩
 replace hH := hH.turns hF37
 replace hH := hH.n2
 refine Go1 1 2 (fltV (erOf (litR s p)) fb34) <| Dn <| Rt1 rfl rfl ?_
 replace hH := (hH.sb (slk (slk sln))).n2
 have hT : tokenF s p = litR s p := by unfold tokenF; rw [if_neg (by omega), if_neg (by omega), if_neg (by show ¬ (0 ≤ Lib.indexByte [47, 38, 33, 63, 42, 43, 40, 41, 46] (UInt8.ofNat (gb s p))); omega), if_neg (by rw [hpre]; simp), if_pos (by omega)]; rfl
 rw [← hT] at hH hv35 ⊢
 exact ⟨v33, fb34, rfl, hv35, hH.turned⟩
 have hqt := hc7
 refine sw_sr <| Go1 3 83 (.bool (((gb s p : Nat) : Int) == (91 : Int))) <| Dn <| If rfl (fun hc8 => ?_) (fun hc8 => ?_)
 have hcl := hc8
 refine sw_sr <| Go1 1 86 (Pp g 0) ?_
 replace hH : Hp w w23 _ _ ([_, _] ++ []) := hH
 refine gl_st (Sc rfl rfl (LClass_ct g p s v l _ hH.mine (hH.zoff _ _ hg0) hs hn (by omega)) ?_)
 rintro _ w41 ⟨v38, fb39, rfl, hv40, hF42⟩
 replace hH := hH.turns hF42
 replace hH := hH.n2
 refine Go1 1 2 (fltV (erOf (clsR s p)) fb39) <| Dn <| Rt1 rfl rfl ?_
 replace hH := (hH.sb (slk (slk sln))).n2
 have hT : tokenF s p = clsR s p := by unfold tokenF; rw [if_neg (by omega), if_neg (by omega), if_neg (by show ¬ (0 ≤ Lib.indexByte [47, 38, 33, 63, 42, 43, 40, 41, 46] (UInt8.ofNat (gb s p))); omega), if_neg (by rw [hpre]; simp), if_neg (by omega), if_pos (by omega)]; rfl
 rw [← hT] at hH hv40 ⊢
 exact ⟨v38, fb39, rfl, hv40, hH.turned⟩
 have hcl := hc8
 refine sw_sr <| Go1 3 21 (Pp g 1) <| Gq rfl (Lk 0 hH rfl rfl rfl) <| gl_st (Sc rfl rfl (LFault_ct 4 (p : Int) _) ?_)
 rintro _ w44 ⟨fb43, rfl, hF45⟩
 replace hH := hH.call hF45
 refine Go1 1 2 (.iface 94 (Pp fb43 0)) <| Dn <| Rt1 rfl rfl ?_
 replace hH := hH.fr3
 replace hH := (hH.sb (slk sln)).n1
 exact tk_err (er := (4, p)) (by unfold tokenF; rw [if_neg (by omega), if_neg (by omega), if_neg (by show ¬ (0 ≤ Lib.indexByte [47, 38, 33, 63, 42, 43, 40, 41, 46] (UInt8.ofNat (gb s p))); omega), if_neg (by rw [hpre]; simp), if_neg (by omega), if_neg (by omega)]) hH.turned
end Go.Proofs.YtllfpnbhjfadiaaGreatDoor
/- Layer 3 (lex): all tokens of a source: what the program's functions answer. -/
set_option maxRecDepth 100000
set_option maxHeartbeats 2000000
set_option linter.unusedVariables false
set_option linter.unusedSimpArgs false
namespace Go.Proofs.YtllfpnbhjfadiaaGreatDoor
open Go.RowKit Go.SW
theorem idx_pos {l : List UInt8} {c : UInt8} (h : 0 ≤ Lib.indexByte l c) (hn : gb l 0 ≠ c.toNat) : 1 ≤ Lib.indexByte l c := by
  cases l with
  | nil => simp [Lib.indexByte] at h
  | cons b t =>
    have hb : b ≠ c := fun e => hn (by subst e; rfl)
    have ht := (idx_lt t c).1
    simp only [Lib.indexByte, beq_iff_eq, hb, if_false] at h ⊢
    split at h
    · omega
    · rename_i h2
      first
      | (rw [if_neg h2]; omega)
      | omega
def erT {α : Type} : Except (Nat × Int) α → Option (Nat × Int)
  | .ok _ => none
  | .error p => some p
def TksOk (l : List Tk) : Prop := ∀ t ∈ l, t.text.length ≤ 8192 ∧ t.cl.Ok ∧ t.pos ≤ 8192
theorem tokenF_pos {s : List UInt8} {p e : Nat} {t : Tk} (h : tokenF s p = .ok (t, e)) : t.pos = p := by
  unfold tokenF at h
  repeat' split at h
  all_goals cases h
  all_goals rfl
def toksO (R : Except (Nat × Int) (List Tk)) (v1 : Value) : Own := .grp (match R with | .error _ => [] | .ok l => [tksO v1 l])
def TsPost (R : Except (Nat × Int) (List Tk)) (w : World) (v : Value) (w' : World) : Prop :=
  ∃ v1 fb, v = .tuple #[v1, fltV (erT R) fb] ∧ ((∃ er, R = .error er) ∨ (∃ l, R = .ok l ∧ l.length ≤ 8193 ∧ TksOk l)) ∧ Fresh w w' [toksO R v1, fltO (erT R) fb]
theorem ts_err {R : Except (Nat × Int) (List Tk)} {fb : Nat} {er : Nat × Int} {w w' : World} (hR : R = .error er) (h : Fresh w w' [fltO (some er) fb]) : TsPost R w (.tuple #[.slice none 0 0, fltV (some er) fb]) w' := by
  subst hR
  exact ⟨_, fb, rfl, .inl ⟨er, rfl⟩, Hp.close (l := []) h⟩
theorem ts_ok {R : Except (Nat × Int) (List Tk)} {v1 : Value} {l : List Tk} {w w' : World} (hR : R = .ok l) (h1 : l.length ≤ 8193) (h2 : TksOk l) (h : Fresh w w' [tksO v1 l]) : TsPost R w (.tuple #[v1, .nilIface]) w' := by
  subst hR
  refine ⟨v1, 0, rfl, .inr ⟨l, rfl, h1, h2⟩, ?_⟩
  have h5 : Hp w w' _ _ ([tksO v1 l] ++ []) := h
  have h6 := flt_none 0 (Hp.close h5)
  exact h6.fr2
theorem toksF_succ (s : List UInt8) (k p : Nat) (acc : List Tk) : toksF s (k + 1) p acc =
    if s.length ≤ p then .ok (acc ++ [⟨6, [], Cl.zero, p⟩]) else
    if gb s p = 35 then (if 0 ≤ Lib.indexByte (s.drop p) (UInt8.ofNat 10) then toksF s k (p + (Lib.indexByte (s.drop p) (UInt8.ofNat 10)).toNat) acc else toksF s k s.length acc) else
    if gb s p = 9 ∨ gb s p = 10 ∨ gb s p = 13 ∨ gb s p = 32 then toksF s k (p + 1) acc else
    match tokenF s p with
    | .error e => .error e
    | .ok (t, e) => toksF s k e (acc ++ [t]) := rfl

theorem LTokens_ct (s : List UInt8) (w : World) (hg0 : w.cell? ⟨0, 0, none⟩ = some errTy) (hs : s.length ≤ 140737488355328) :
    Fun Tryz.prog 58 [.string (bs s)] w fun v w' => TsPost (tokensF s) w v w' := by
 refine fun_of_sw Tryz.func58 rfl 77 rfl rfl ?_
 have hH := Hp.start w
 refine sw_sr <| Go0 2 <| Dn <| sw_seq <| sw_sr <| Gc0 2 8 (.int .i64 (((bs s).size : Nat) : Int)) (Ni s.length) (by rw [bs_size]) <| Go1 1 9 (.bool (decide (((s.length : Nat) : Int) > (8192 : Int)))) <| Dn <| If rfl (fun hc1 => ?_) (fun hc1 => ?_)
 refine sw_sr <| gl_st (Sc rfl rfl (LFault_ct 2 (-1) _) ?_)
 rintro _ w2 ⟨fb1, rfl, hF3⟩
 replace hH := hH.call hF3
 exact Go2 2 2 (.slice none 0 0) 3 (.iface 94 (Pp fb1 0)) <| Dn <| Rt2 rfl rfl rfl <| ts_err (by unfold tokensF; rw [if_pos (by omega)]) (flt_some (hH.sb (slk sln))).fresh
 refine Sk <| sw_sr <| Go1 2 12 (.agg #[.string (bs s), .int .i64 0, .slice none 0 0]) <| gl_st (Bx [.string (bs s), .int .i64 0, .slice none 0 0] rfl hH ?_)
 clear hH; intro b4 w5 hH
 refine Go1 1 4 (Pp b4 0) <| Dn <| sw_seq <| sw_block ?_
 replace hH := hH.nilRow 131 7
 replace hH := (hH.sb (slk (slk sln))).n2
 refine Lp (γ := List Tk × Nat × Nat × Value) hH (fun (l, p, k, vt) => [(0, .string (bs s)), (4, Pp b4 0)]) (fun (l, p, k, vt) w_ H_ => (toksF s (s.length + 1) 0 [] = toksF s (k + 1) p l) ∧ (p ≤ s.length) ∧ (s.length ≤ k + p) ∧ (l.length ≤ p) ∧ (TksOk l) ∧ H_ [.blk b4 190 [.string (bs s), Ni p, vt], .row vt 131 7 l.length (rowC tkC l)]) (fun (l, p, k, vt) => k) ([], 0, s.length, .slice none 0 0) ?_ ?_
 · exact ⟨rfl, by omega, by omega, Nat.le_refl _, (fun t h => by cases h), hH⟩
 clear hH
 rintro ⟨l, p, k, vt⟩ w6 ⟨hm, hp, hk, hll, hok, hH⟩
 refine swk [(0, .string (bs s)), (4, Pp b4 0)] <| sw_seq <| sw_sr <| Go1 3 16 (Pp b4 1) <| Gq rfl (Lk 0 hH rfl rfl rfl) <| Gc0 2 19 (.int .i64 (((bs s).size : Nat) : Int)) (Ni s.length) (by rw [bs_size]) <| Go1 1 20 (.bool (decide ((p : Int) < ((s.length : Nat) : Int)))) <| Dn <| If rfl (fun hc2 => ?_) (fun hc2 => ?_)
 refine Sk <| sw_block ?_
 have hgb := gb_lt s p
 refine sw_sr <| Go2 4 21 (.string (bs s)) 24 (Pp b4 1) <| Gq rfl (Lk 0 hH rfl rfl rfl) <| Gq rfl (rd_sidx (by kernel_rfl) rfl p rfl (by omega)) <| Dn <| sw_block <| sw_sr <| Go1 2 32 (.bool (((gb s p : Nat) : Int) == (35 : Int))) <| Dn <| If rfl (fun hc3 => ?_) (fun hc3 => ?_)
 have hq3 := hc3
 refine sw_sr <| Go2 4 34 (.string (bs s)) 37 (Pp b4 1) <| Gq rfl (Lk 0 hH rfl rfl rfl) <| Gq rfl (rd_scut (by kernel_rfl) rfl (.inr ⟨_, _, rfl, rfl⟩) (.inl ⟨rfl, rfl⟩) (by omega) (by omega)) <| gl_cv 39 (.string (bs (s.drop p))) (by rw [List.take_of_length_le (by simp)]) rfl <| gl_st (Sc rfl rfl (IndexByte_ct (s.drop p) 10 _) ?_)
 rintro _ w7 ⟨rfl, hF8⟩
 replace hH := hH.call hF8
 refine Go1 1 5 (.int .i64 (Lib.indexByte (s.drop p) (UInt8.ofNat 10))) <| Dn <| sw_sr <| Go1 2 42 (.bool (decide ((Lib.indexByte (s.drop p) (UInt8.ofNat 10)) ≥ (0 : Int)))) <| Dn <| If rfl (fun hc4 => ?_) (fun hc4 => ?_)
 have hq4 := hc4
 refine sw_region <| Go2 3 43 (Pp b4 0) 45 (Pp b4 1) <| Gq rfl (Lk 0 hH rfl rfl rfl) <| Go1 1 47 (.int .i64 (Lib.indexByte (s.drop p) (UInt8.ofNat 10))) ?_
 obtain ⟨i, hi⟩ : ∃ i : Nat, Lib.indexByte (s.drop p) (UInt8.ofNat 10) = i := ⟨(Lib.indexByte (s.drop p) (UInt8.ofNat 10)).toNat, by omega⟩
 have hil := (idx_lt (s.drop p) (UInt8.ofNat 10)).2
 rw [List.length_drop] at hil
 have hi1 := idx_pos (l := s.drop p) (c := UInt8.ofNat 10) (by omega) (by rw [gb_drop0]; show gb s p ≠ 10; omega)
 have hin : toksF s k (p + (Lib.indexByte (s.drop p) (UInt8.ofNat 10)).toNat) l = toksF s k (p + i) l := by rw [hi]; rfl
 refine gl_cv 47 (Ni i) (by rw [hi]) rfl <| Gw0 1 48 ((p : Int) + (i : Int)) ((p + i : Nat) : Int) <| Go1 2 50 (Pp b4 1) <| gl_st (Ks 0 (Ni (p + i)) rfl hH rfl rfl ?_)
 clear hH; intro w9 hH
 refine Dd <| bkN <| bkN <| rnd_end (g := (l, p, k, vt)) (l, p + i, k - 1, vt) (by kernel_rfl) ?_ ?_
 replace hH := (hH.sb (slk (slk sln))).n2
 · exact ⟨by rw [hm, toksF_succ, if_neg (by omega), if_pos (by omega), if_pos (by omega), hin, show k - 1 + 1 = k from by omega], by omega, by omega, by (try simp only [List.length_append, List.length_cons, List.length_nil]); omega, hok, hH⟩
 · show k - 1 < k; omega
 have hq4 := hc4
 refine sw_region <| Gc1 3 53 (.int .i64 (((bs s).size : Nat) : Int)) (Ni s.length) (by rw [bs_size]) 51 (Pp b4 0) <| Go1 2 55 (Pp b4 1) <| gl_st (Ks 0 (Ni s.length) rfl hH rfl rfl ?_)
 clear hH; intro w10 hH
 refine Dd <| bkN <| bkN <| rnd_end (g := (l, p, k, vt)) (l, s.length, k - 1, vt) (by kernel_rfl) ?_ ?_
 replace hH := (hH.sb (slk (slk sln))).n2
 · exact ⟨by rw [hm, toksF_succ, if_neg (by omega), if_pos (by omega), if_neg (by omega), show k - 1 + 1 = k from by omega], by omega, by omega, by (try simp only [List.length_append, List.length_cons, List.length_nil]); omega, hok, hH⟩
 · show k - 1 < k; omega
 have hq3 := hc3
 refine sw_seq <| sw_sr <| Go1 2 56 (.bool (((gb s p : Nat) : Int) == (9 : Int))) <| Dn <| If rfl (fun hc5 => ?_) (fun hc5 => ?_)
 have hq5 := hc5
 refine Sk <| If rfl (fun hc6 => ?_) (fun hc6 => ?_)
 have hq6 := hc6
 refine sw_region <| Go2 3 61 (Pp b4 0) 63 (Pp b4 1) <| Gq rfl (Lk 0 hH rfl rfl rfl) <| Gw0 1 65 ((p : Int) + 1) ((p + 1 : Nat) : Int) <| Go1 2 67 (Pp b4 1) <| gl_st (Ks 0 (Ni (p + 1)) rfl hH rfl rfl ?_)
 clear hH; intro w11 hH
 refine Dd <| bkN <| bkN <| rnd_end (g := (l, p, k, vt)) (l, p + 1, k - 1, vt) (by kernel_rfl) ?_ ?_
 replace hH := (hH.sb (slk (slk sln))).n2
 · exact ⟨by rw [hm, toksF_succ, if_neg (by omega), if_neg (by omega), if_pos (by omega), show k - 1 + 1 = k from by omega], by omega, by omega, by (try simp only [List.length_append, List.length_cons, List.length_nil]); omega, hok, hH⟩
 · show k - 1 < k; omega
 have hq6 := hc6
 refine sw_sr <| Go1 1 27 (Pp b4 0) ?_
 replace hH : Hp w w6 _ _ ([_, _] ++ []) := hH
 refine gl_st (Sc rfl rfl (LToken_ct b4 p s vt l _ hH.mine (hH.zoff _ _ hg0) (by omega) (by omega) (by omega)) ?_)
 rintro _ w15 ⟨v12, fb13, rfl, hv14, hF16⟩
 replace hH := hH.turns hF16
 replace hH := hH.n2
 refine Go1 1 6 (fltV (erOf (tokenF s p)) fb13) <| Dn <| sw_sr <| Go1 1 29 (fltV (erOf (tokenF s p)) fb13) <| Gq rfl (rd_if_ne (by kernel_rfl) rfl) <| Dn <| If rfl (fun hc7 => ?_) (fun hc7 => ?_)
 obtain ⟨er, hR⟩ := hv14.resolve_right (fun h => by obtain ⟨_, _, h, _⟩ := h; rw [h] at hc7; cases hc7)
 refine sw_sr <| Go2 3 2 (.slice none 0 0) 3 (fltV (erOf (tokenF s p)) fb13) <| Dn <| Rt2 rfl rfl rfl ?_
 replace hH := hH.fr2
 replace hH := (hH.sb (slk sln)).n1
 rw [hR] at hH ⊢
 exact ts_err (er := (er.1, ((er.2 : Nat) : Int))) (by unfold tokensF; rw [if_neg (by omega), hm, toksF_succ, if_neg (by omega), if_neg (by omega), if_neg (by omega), hR]) hH.fresh
 obtain ⟨t, q, hR, hq1, hq2, ht1, ht2⟩ := hv14.resolve_left (fun h => by obtain ⟨_, h⟩ := h; rw [h] at hc7; cases hc7)
 rw [hR] at hH
 replace hH := hH.open_
 replace hH := hH.fr3
 replace hH := Hp.open_ (l := []) hH
 replace hH : Hp w w15 _ _ [.blk b4 190 [.string (bs s), Ni q, v12], .row v12 131 7 ((l ++ [t]).length) (rowC tkC (l ++ [t]))] := hH
 refine sw_skip <| bkN <| bkN <| rnd_end (g := (l, p, k, vt)) (l ++ [t], q, k - 1, v12) (by kernel_rfl) ?_ ?_
 replace hH := (hH.sb (slk (slk sln))).n2
 · exact ⟨by rw [hm, toksF_succ, if_neg (by omega), if_neg (by omega), if_neg (by omega), hR, show k - 1 + 1 = k from by omega], by omega, by omega, by (try simp only [List.length_append, List.length_cons, List.length_nil]); omega, (fun t ht => (List.mem_append.1 ht).elim (hok t) (fun h => by obtain rfl := List.mem_singleton.1 h; exact ⟨ht1, ht2, by rw [tokenF_pos hR]; omega⟩)), hH⟩
 · show k - 1 < k; omega
 have hq5 := hc5
 refine sw_sr <| Go1 2 56 (.bool (((gb s p : Nat) : Int) == (10 : Int))) <| Dn <| If rfl (fun hc8 => ?_) (fun hc8 => ?_)
 have hq8 := hc8
 refine Sk <| If rfl (fun hc9 => ?_) (fun hc9 => ?_)
 have hq9 := hc9
 refine sw_region <| Go2 3 61 (Pp b4 0) 63 (Pp b4 1) <| Gq rfl (Lk 0 hH rfl rfl rfl) <| Gw0 1 65 ((p : Int) + 1) ((p + 1 : Nat) : Int) <| Go1 2 67 (Pp b4 1) <| gl_st (Ks 0 (Ni (p + 1)) rfl hH rfl rfl ?_)
 clear hH; intro w17 hH
 refine Dd <| bkN <| bkN <| rnd_end (g := (l, p, k, vt)) (l, p + 1, k - 1, vt) (by kernel_rfl) ?_ ?_
 replace hH := (hH.sb (slk (slk sln))).n2
 · exact ⟨by rw [hm, toksF_succ, if_neg (by omega), if_neg (by omega), if_pos (by omega), show k - 1 + 1 = k from by omega], by omega, by omega, by (try simp only [List.length_append, List.length_cons, List.length_nil]); omega, hok, hH⟩
 · show k - 1 < k; omega
 have hq9 := hc9
 refine sw_sr <| Go1 1 27 (Pp b4 0) ?_
 replace hH : Hp w w6 _ _ ([_, _] ++ []) := hH
 refine gl_st (Sc rfl rfl (LToken_ct b4 p s vt l _ hH.mine (hH.zoff _ _ hg0) (by omega) (by omega) (by omega)) ?_)
 rintro _ w21 ⟨v18, fb19, rfl, hv20, hF22⟩
 replace hH := hH.turns hF22
 replace hH := hH.n2
 refine Go1 1 6 (fltV (erOf (tokenF s p)) fb19) <| Dn <| sw_sr <| Go1 1 29 (fltV (erOf (tokenF s p)) fb19) <| Gq rfl (rd_if_ne (by kernel_rfl) rfl) <| Dn <| If rfl (fun hc10 => ?_) (fun hc10 => ?_)
 obtain ⟨er, hR⟩ := hv20.resolve_right (fun h => by obtain ⟨_, _, h, _⟩ := h; rw [h] at hc10; cases hc10)
 refine sw_sr <| Go2 3 2 (.slice none 0 0) 3 (fltV (erOf (tokenF s p)) fb19) <| Dn <| Rt2 rfl rfl rfl ?_
 replace hH := hH.fr2
 replace hH := (hH.sb (slk sln)).n1
 rw [hR] at hH ⊢
 exact ts_err (er := (er.1, ((er.2 : Nat) : Int))) (by unfold tokensF; rw [if_neg (by omega), hm, toksF_succ, if_neg (by omega), if_neg (by omega), if_neg (by omega), hR]) hH.fresh
 obtain ⟨t, q, hR, hq1, hq2, ht1, ht2⟩ := hv20.resolve_left (fun h => by obtain ⟨_, h⟩ := h; rw [h] at hc10; cases hc10)
 rw [hR] at hH
 replace hH := hH.open_
 replace hH := hH.fr3
 replace hH := Hp.open_ (l := []) hH
 replace hH : Hp w w21 _ _ [.blk b4 190 [.string (bs s), Ni q, v18], .row v18 131 7 ((l ++ [t]).length) (rowC tkC (l ++ [t]))] := hH
 refine sw_skip <| bkN <| bkN <| rnd_end (g := (l, p, k, vt)) (l ++ [t], q, k - 1, v18) (by kernel_rfl) ?_ ?_
 replace hH := (hH.sb (slk (slk sln))).n2
 · exact ⟨by rw [hm, toksF_succ, if_neg (by omega), if_neg (by omega), if_neg (by omega), hR, show k - 1 + 1 = k from by omega], by omega, by omega, by (try simp only [List.length_append, List.length_cons, List.length_nil]); omega, (fun t ht => (List.mem_append.1 ht).elim (hok t) (fun h => by obtain rfl := List.mem_singleton.1 h; exact ⟨ht1, ht2, by rw [tokenF_pos hR]; omega⟩)), hH⟩
 · show k - 1 < k; omega
 have hq8 := hc8
 refine sw_sr <| Go1 2 56 (.bool (((gb s p : Nat) : Int) == (13 : Int))) <| Dn <| If rfl (fun hc11 => ?_) (fun hc11 => ?_)
 have hq11 := hc11
 refine Sk <| If rfl (fun hc12 => ?_) (fun hc12 => ?_)
 have hq12 := hc12
 refine sw_region <| Go2 3 61 (Pp b4 0) 63 (Pp b4 1) <| Gq rfl (Lk 0 hH rfl rfl rfl) <| Gw0 1 65 ((p : Int) + 1) ((p + 1 : Nat) : Int) <| Go1 2 67 (Pp b4 1) <| gl_st (Ks 0 (Ni (p + 1)) rfl hH rfl rfl ?_)
 clear hH; intro w23 hH
 refine Dd <| bkN <| bkN <| rnd_end (g := (l, p, k, vt)) (l, p + 1, k - 1, vt) (by kernel_rfl) ?_ ?_
 replace hH := (hH.sb (slk (slk sln))).n2
 · exact ⟨by rw [hm, toksF_succ, if_neg (by omega), if_neg (by omega), if_pos (by omega), show k - 1 + 1 = k from by omega], by omega, by omega, by (try simp only [List.length_append, List.length_cons, List.length_nil]); omega, hok, hH⟩
 · show k - 1 < k; omega
 have hq12 := hc12
 refine sw_sr <| Go1 1 27 (Pp b4 0) ?_
 replace hH : Hp w w6 _ _ ([_, _] ++ []) := hH
 refine gl_st (Sc rfl rfl (LToken_ct b4 p s vt l _ hH.mine (hH.zoff _ _ hg0) (by omega) (by omega) (by omega)) ?_)
 rintro _ w27 ⟨v24, fb25, rfl, hv26, hF28⟩
 replace hH := hH.turns hF28
 replace hH := hH.n2
 refine Go1 1 6 (fltV (erOf (tokenF s p)) fb25) <| Dn <| sw_sr <| Go1 1 29 (fltV (erOf (tokenF s p)) fb25) <| Gq rfl (rd_if_ne (by kernel_rfl) rfl) <| Dn <| If rfl (fun hc13 => ?_) (fun hc13 => ?_)
 obtain ⟨er, hR⟩ := hv26.resolve_right (fun h => by obtain ⟨_, _, h, _⟩ := h; rw [h] at hc13; cases hc13)
 refine sw_sr <| Go2 3 2 (.slice none 0 0) 3 (fltV (erOf (tokenF s p)) fb25) <| Dn <| Rt2 rfl rfl rfl ?_
 replace hH := hH.fr2
 replace hH := (hH.sb (slk sln)).n1
 rw [hR] at hH ⊢
 exact ts_err (er := (er.1, ((er.2 : Nat) : Int))) (by unfold tokensF; rw [if_neg (by omega), hm, toksF_succ, if_neg (by omega), if_neg (by omega), if_neg (by omega), hR]) hH.fresh
 obtain ⟨t, q, hR, hq1, hq2, ht1, ht2⟩ := hv26.resolve_left (fun h => by obtain ⟨_, h⟩ := h; rw [h] at hc13; cases hc13)
 rw [hR] at hH
 replace hH := hH.open_
 replace hH := hH.fr3
 replace hH := Hp.open_ (l := []) hH
 replace hH : Hp w w27 _ _ [.blk b4 190 [.string (bs s), Ni q, v24], .row v24 131 7 ((l ++ [t]).length) (rowC tkC (l ++ [t]))] := hH
 refine sw_skip <| bkN <| bkN <| rnd_end (g := (l, p, k, vt)) (l ++ [t], q, k - 1, v24) (by kernel_rfl) ?_ ?_
 replace hH := (hH.sb (slk (slk sln))).n2
 · exact ⟨by rw [hm, toksF_succ, if_neg (by omega), if_neg (by omega), if_neg (by omega), hR, show k - 1 + 1 = k from by omega], by omega, by omega, by (try simp only [List.length_append, List.length_cons, List.length_nil]); omega, (fun t ht => (List.mem_append.1 ht).elim (hok t) (fun h => by obtain rfl := List.mem_singleton.1 h; exact ⟨ht1, ht2, by rw [tokenF_pos hR]; omega⟩)), hH⟩
 · show k - 1 < k; omega
 have hq11 := hc11
 refine sw_region <| Go1 2 56 (.bool (((gb s p : Nat) : Int) == (32 : Int))) <| Dd <| sw_next <| If rfl (fun hc14 => ?_) (fun hc14 => ?_)
 have hq14 := hc14
 refine sw_region <| Go2 3 61 (Pp b4 0) 63 (Pp b4 1) <| Gq rfl (Lk 0 hH rfl rfl rfl) <| Gw0 1 65 ((p : Int) + 1) ((p + 1 : Nat) : Int) <| Go1 2 67 (Pp b4 1) <| gl_st (Ks 0 (Ni (p + 1)) rfl hH rfl rfl ?_)
 clear hH; intro w29 hH
 refine Dd <| bkN <| bkN <| rnd_end (g := (l, p, k, vt)) (l, p + 1, k - 1, vt) (by kernel_rfl) ?_ ?_
 replace hH := (hH.sb (slk (slk sln))).n2
 · exact ⟨by rw [hm, toksF_succ, if_neg (by omega), if_neg (by omega), if_pos (by omega), show k - 1 + 1 = k from by omega], by omega, by omega, by (try simp only [List.length_append, List.length_cons, List.length_nil]); omega, hok, hH⟩
 · show k - 1 < k; omega
 have hq14 := hc14
 refine sw_sr <| Go1 1 27 (Pp b4 0) ?_
 replace hH : Hp w w6 _ _ ([_, _] ++ []) := hH
 refine gl_st (Sc rfl rfl (LToken_ct b4 p s vt l _ hH.mine (hH.zoff _ _ hg0) (by omega) (by omega) (by omega)) ?_)
 rintro _ w33 ⟨v30, fb31, rfl, hv32, hF34⟩
 replace hH := hH.turns hF34
 replace hH := hH.n2
 refine Go1 1 6 (fltV (erOf (tokenF s p)) fb31) <| Dn <| sw_sr <| Go1 1 29 (fltV (erOf (tokenF s p)) fb31) <| Gq rfl (rd_if_ne (by kernel_rfl) rfl) <| Dn <| If rfl (fun hc15 => ?_) (fun hc15 => ?_)
 obtain ⟨er, hR⟩ := hv32.resolve_right (fun h => by obtain ⟨_, _, h, _⟩ := h; rw [h] at hc15; cases hc15)
 refine sw_sr <| Go2 3 2 (.slice none 0 0) 3 (fltV (erOf (tokenF s p)) fb31) <| Dn <| Rt2 rfl rfl rfl ?_
 replace hH := hH.fr2
 replace hH := (hH.sb (slk sln)).n1
 rw [hR] at hH ⊢
 exact ts_err (er := (er.1, ((er.2 : Nat) : Int))) (by unfold tokensF; rw [if_neg (by omega), hm, toksF_succ, if_neg (by omega), if_neg (by omega), if_neg (by omega), hR]) hH.fresh
 obtain ⟨t, q, hR, hq1, hq2, ht1, ht2⟩ := hv32.resolve_left (fun h => by obtain ⟨_, h⟩ := h; rw [h] at hc15; cases hc15)
 rw [hR] at hH
 replace hH := hH.open_
 replace hH := hH.fr3
 replace hH := Hp.open_ (l := []) hH
 replace hH : Hp w w33 _ _ [.blk b4 190 [.string (bs s), Ni q, v30], .row v30 131 7 ((l ++ [t]).length) (rowC tkC (l ++ [t]))] := hH
 refine sw_skip <| bkN <| bkN <| rnd_end (g := (l, p, k, vt)) (l ++ [t], q, k - 1, v30) (by kernel_rfl) ?_ ?_
 replace hH := (hH.sb (slk (slk sln))).n2
 · exact ⟨by rw [hm, toksF_succ, if_neg (by omega), if_neg (by omega), if_neg (by omega), hR, show k - 1 + 1 = k from by omega], by omega, by omega, by (try simp only [List.length_append, List.length_cons, List.length_nil]); omega, (fun t ht => (List.mem_append.1 ht).elim (hok t) (fun h => by obtain rfl := List.mem_singleton.1 h; exact ⟨ht1, ht2, by rw [tokenF_pos hR]; omega⟩)), hH⟩
 · show k - 1 < k; omega
 refine sw_exit <| thX <| thX <| bkH <| sw_next <| sw_sr <| Gc2 4 71 (.int .i64 (((bs s).size : Nat) : Int)) (Ni s.length) (by rw [bs_size]) 68 (Pp b4 0) 69 (.agg #[.int .i64 6, .string (bs []), .int .u64 0, .int .u64 0, .int .u64 0, .int .u64 0, .int .i64 0]) ?_
 replace hH : Hp w w6 _ _ ([_, _] ++ []) := hH
 refine gl_st (Sc rfl rfl (LAdd_ct b4 p s.length s vt l ⟨6, [], Cl.zero, 0⟩ 0 _ hH.mine (by omega)) ?_)
 rintro _ w36 ⟨v35, rfl, hF37⟩
 replace hH := hH.turns hF37
 replace hH := hH.n2
 refine Dn <| sw_sr <| Go1 3 75 (Pp b4 2) <| Gq rfl (Lk 0 hH rfl rfl rfl) <| Go2 2 2 v35 3 (.nilIface) <| Dn <| Rt2 rfl rfl rfl ?_
 replace hH := hH.fr2
 replace hH := (hH.sb (slk sln)).n1
 exact ts_ok (by unfold tokensF; rw [if_neg (by omega), hm, toksF_succ, if_pos (by omega)]) (by simp; omega) (fun t ht => (List.mem_append.1 ht).elim (hok t) (fun h => by obtain rfl := List.mem_singleton.1 h; exact ⟨Nat.zero_le _, Cl.zero_ok, by show p ≤ 8192; omega⟩)) hH.fresh
end Go.Proofs.YtllfpnbhjfadiaaGreatDoor
/- Layer 3 (lex): a literal is written: what the program's functions answer. -/
set_option maxRecDepth 100000
set_option maxHeartbeats 2000000
set_option linter.unusedVariables false
set_option linter.unusedSimpArgs false
namespace Go.Proofs.YtllfpnbhjfadiaaGreatDoor
open Go.RowKit Go.SW
theorem q_esc : ∀ b : Fin 256, 0 ≤ Lib.indexByte [10, 13, 9, 39, 92] (UInt8.ofNat b.val) → quoteB (UInt8.ofNat b.val) = [92] ++ (([110, 114, 116, 39, 92].drop (Lib.indexByte [10, 13, 9, 39, 92] (UInt8.ofNat b.val)).toNat).take (((Lib.indexByte [10, 13, 9, 39, 92] (UInt8.ofNat b.val)).toNat + 1) - (Lib.indexByte [10, 13, 9, 39, 92] (UInt8.ofNat b.val)).toNat)) := by decide +kernel
theorem q_hex : ∀ b : Fin 256, Lib.indexByte [10, 13, 9, 39, 92] (UInt8.ofNat b.val) < 0 → (b.val < 32 ∨ 126 < b.val) → quoteB (UInt8.ofNat b.val) = [92, 120] ++ (([48, 49, 50, 51, 52, 53, 54, 55, 56, 57, 97, 98, 99, 100, 101, 102].drop (b.val / 16)).take (((b.val / 16) + 1) - (b.val / 16))) ++ (([48, 49, 50, 51, 52, 53, 54, 55, 56, 57, 97, 98, 99, 100, 101, 102].drop (b.val % 16)).take (((b.val % 16) + 1) - (b.val % 16))) := by decide +kernel
theorem q_one : ∀ b : Fin 256, Lib.indexByte [10, 13, 9, 39, 92] (UInt8.ofNat b.val) < 0 → 32 ≤ b.val → b.val ≤ 126 → quoteB (UInt8.ofNat b.val) = [UInt8.ofNat b.val] := by decide +kernel
theorem quoteB_len (c : UInt8) : (quoteB c).length ≤ 4 := by
  unfold quoteB
  repeat' split
  all_goals simp
theorem quoteB_flat (l : List UInt8) : (l.flatMap quoteB).length ≤ 4 * l.length := by
  induction l with
  | nil => simp
  | cons r l ih => have := quoteB_len r; simp only [List.flatMap_cons, List.length_append, List.length_cons]; omega
theorem take_quote {l : List UInt8} {i : Nat} (h : i < l.length) : (l.take (i + 1)).flatMap quoteB = (l.take i).flatMap quoteB ++ quoteB (UInt8.ofNat (gb l i)) := by
  have hg : UInt8.ofNat (gb l i) = l[i] := by unfold gb; simp [List.getElem?_eq_getElem h]
  rw [List.take_add_one, List.getElem?_eq_getElem h, hg]
  simp only [Option.toList_some, List.flatMap_append, List.flatMap_cons, List.flatMap_nil, List.append_nil]

theorem LQuote_ct (t : List UInt8) (w : World) (hs : t.length ≤ 17592186044416) :
    Fun Tryz.prog 266 [.string (bs t)] w fun v w' => v = .string (bs (quoteL t)) ∧ Fresh w w' [] := by
 refine fun_of_sw Tryz.func266 rfl 54 rfl rfl ?_
 have hH := Hp.start w
 refine sw_sr <| Go0 1 <| Dn <| sw_sr <| gl_st (Alc [.pointer none, .slice none 0 0] rfl hH ?_)
 clear hH; intro b1 w2 hH
 refine Dn <| sw_sr ?_
 replace hH := hH.nilRow 5 1
 replace hH : Hp w w2 _ _ ([_, _] ++ []) := hH
 refine gl_st (Sc rfl rfl (WriteByte_ct b1 209 (.pointer none) (.slice none 0 0) [] 39 _ (.inl rfl) hH.mine lies_bd (by omega) (by simp only [List.length_append, List.length_cons, List.length_nil, List.length_take, List.length_drop]; omega)) ?_)
 rintro _ w4 ⟨v3, rfl, hF5⟩
 replace hH := hH.turns hF5
 replace hH := hH.n2
 refine Dn <| sw_seq <| sw_sr <| Gc0 2 9 (.int .i64 (((bs t).size : Nat) : Int)) (Ni t.length) (by rw [bs_size]) <| Go1 1 10 (.int .i64 0) <| Dn <| sw_block ?_
 replace hH := (hH.sb (slk (slk sln))).n2
 refine Lp (γ := Nat × Value) hH (fun (i, v) => [(0, .string (bs t)), (3, Pp b1 0), (9, Ni t.length), (10, Ni i)]) (fun (i, v) w_ H_ => (i ≤ t.length) ∧ H_ [.blk b1 209 [Pp b1 0, v], .row v 5 1 (([39] ++ (t.take i).flatMap quoteB).length) (bv ([39] ++ (t.take i).flatMap quoteB))]) (fun (i, v) => t.length - i) (0, v3) ?_ ?_
 · exact ⟨Nat.zero_le _, hH⟩
 clear hH
 rintro ⟨i, v⟩ w6 ⟨hi, hH⟩
 refine swk [(0, .string (bs t)), (3, Pp b1 0), (9, Ni t.length), (10, Ni i)] <| sw_sr <| Go1 1 11 (.bool (decide ((i : Int) < ((t.length : Nat) : Int)))) <| Dn <| sw_seq <| If rfl (fun hc1 => ?_) (fun hc1 => ?_)
 refine Sk <| sw_seq <| sw_block <| sw_sr <| Go1 2 4 (Ni i) <| Dn ?_
 have hgb := gb_lt t i
 have hfl := quoteB_flat (t.take i)
 rw [List.length_take, Nat.min_eq_left (by omega)] at hfl
 refine sw_sr <| Go2 2 13 (.string (bs t)) 14 (Ni i) <| Gq rfl (rd_sidx (by kernel_rfl) rfl i rfl (by omega)) <| Go1 1 5 (.int .u8 ((gb t i : Nat) : Int)) <| Dn <| sw_sr <| Go1 1 16 (.int .u8 ((gb t i : Nat) : Int)) <| gl_st (Sc rfl rfl (IndexByte_ct [10, 13, 9, 39, 92] (gb t i) _) ?_)
 rintro _ w7 ⟨rfl, hF8⟩
 replace hH := hH.call hF8
 refine Go1 1 6 (.int .i64 (Lib.indexByte [10, 13, 9, 39, 92] (UInt8.ofNat (gb t i)))) <| Dn <| sw_block <| sw_sr <| Go1 3 20 (.bool (decide ((Lib.indexByte [10, 13, 9, 39, 92] (UInt8.ofNat (gb t i))) ≥ (0 : Int)))) <| Dn <| If rfl (fun hc2 => ?_) (fun hc2 => ?_)
 have hx := hc2
 refine sw_region <| Go1 1 23 (.int .i64 (Lib.indexByte [10, 13, 9, 39, 92] (UInt8.ofNat (gb t i)))) ?_
 have hi3 := (idx_lt [10, 13, 9, 39, 92] (UInt8.ofNat (gb t i))).2
 simp only [List.length_cons, List.length_nil] at hi3
 obtain ⟨j, hj⟩ : ∃ j : Nat, (Lib.indexByte [10, 13, 9, 39, 92] (UInt8.ofNat (gb t i))) = j := ⟨(Lib.indexByte [10, 13, 9, 39, 92] (UInt8.ofNat (gb t i))).toNat, by omega⟩
 have hq := q_esc ⟨gb t i, hgb⟩ (by show 0 ≤ (Lib.indexByte [10, 13, 9, 39, 92] (UInt8.ofNat (gb t i))); omega)
 simp only [hj, Int.toNat_natCast] at hq
 refine gl_cv 23 (Ni j) (by rw [hj]) rfl <| Go1 1 24 (.int .i64 (Lib.indexByte [10, 13, 9, 39, 92] (UInt8.ofNat (gb t i)))) <| gl_cv 24 (Ni j) (by rw [hj]) rfl <| Gw0 1 25 ((j : Int) + 1) ((j + 1 : Nat) : Int) <| Gq rfl (rd_scut (by kernel_rfl) rfl (.inr ⟨_, _, rfl, rfl⟩) (.inr ⟨_, _, rfl, rfl⟩) (by omega) (by show _ ≤ 5; omega)) <| Gq rfl (rd_sadd (by kernel_rfl) rfl rfl (by simp <;> omega)) ?_
 replace hH : Hp w w7 _ _ ([_, _] ++ []) := hH
 refine gl_st (Sc rfl rfl (WriteString_ct b1 209 (Pp b1 0) v ([39] ++ (t.take i).flatMap quoteB) ([92] ++ (([110, 114, 116, 39, 92].drop j).take ((j + 1) - j))) _ (.inr rfl) hH.mine lies_bd (by simp only [List.length_append, List.length_cons, List.length_nil, List.length_take, List.length_drop]; omega)) ?_)
 rintro _ w10 ⟨v9, rfl, hF11⟩
 replace hH := hH.turns hF11
 replace hH := hH.n2
 refine Dd <| bkN <| bkN <| sw_next <| sw_region <| Gw0 1 51 ((i : Int) + 1) ((i + 1 : Nat) : Int) <| Go1 1 10 (Ni (i + 1)) <| Dd <| rnd_end (g := (i, v)) (i + 1, v9) (by kernel_rfl) ?_ ?_
 replace hH := (hH.sb (slk (slk sln))).n2
 · exact ⟨by omega, hH.cast (by rw [take_quote (by omega), hq]; simp)⟩
 · show t.length - (i + 1) < t.length - i; omega
 have hx := hc2
 refine sw_sr <| Go1 3 32 (.bool (decide (((gb t i : Nat) : Int) < (32 : Int)))) <| Gi 32 rfl (fun hg3 => ?_) (fun hg3 => ?_)
 have hlow := hg3
 have hq := q_hex ⟨gb t i, hgb⟩ (by show Lib.indexByte _ (UInt8.ofNat (gb t i)) < 0; omega) (by show gb t i < 32 ∨ 126 < gb t i; omega)
 refine Go1 4 29 (.bool true) <| Dn <| It <| Dr hH sln ?_
 clear hH; intro w12 hH hS9
 refine Dc1 2 [0,1] 37 (.int .u8 (Int.fdiv ((gb t i : Nat) : Int) (2 ^ 4))) (.int .u8 (((gb t i) / 16 : Nat) : Int)) (cv_shr) 36 (.int .u8 ((gb t i : Nat) : Int)) hS9 <| Dc1 2 [2,3] 39 (.int .u8 (Int.fdiv ((gb t i : Nat) : Int) (2 ^ 4))) (.int .u8 (((gb t i) / 16 : Nat) : Int)) (cv_shr) 38 (.int .u8 ((gb t i : Nat) : Int)) hS9 <| Dc0 1 [4] 40 (.int .u8 (IntKind.u8.wrap ((((gb t i) / 16 : Nat) : Int) + 1))) (.int .u8 ((((gb t i) / 16) + 1 : Nat) : Int)) (cv_u8 (by omega)) hS9 <| Dq 5 rfl (fun _ hS => (rd_scut (by kernel_rfl) rfl (.inr ⟨_, _, rfl, rfl⟩) (.inr ⟨_, _, rfl, rfl⟩) (by omega) (by show _ ≤ 16; omega))) hS9 <| Dq 6 rfl (fun _ hS => (rd_sadd (by kernel_rfl) rfl rfl (by simp <;> omega))) hS9 <| Dc1 2 [7,8] 44 (.int .u8 (IntKind.u8.wrap (((BitVec.ofInt 8 ((gb t i : Nat) : Int) &&& BitVec.ofInt 8 15).toNat : Nat) : Int))) (.int .u8 ((gb t i % 16 : Nat) : Int)) ((by rw [show gb t i % 16 = gb t i &&& 15 from (Nat.and_two_pow_sub_one_eq_mod _ 4).symm]; exact cv_and_u8 (a := gb t i) (b := 15) hgb (by decide))) 43 (.int .u8 ((gb t i : Nat) : Int)) hS9 <| gdk [(0, .string (bs t)), (3, Pp b1 0), (5, .int .u8 ((gb t i : Nat) : Int)), (9, Ni t.length), (10, Ni i), (42, .string (bs ([92, 120] ++ (([48, 49, 50, 51, 52, 53, 54, 55, 56, 57, 97, 98, 99, 100, 101, 102].drop ((gb t i) / 16)).take ((((gb t i) / 16) + 1) - ((gb t i) / 16)))))), (44, .int .u8 ((gb t i % 16 : Nat) : Int))] <| Dc1 2 [9,10] 46 (.int .u8 (IntKind.u8.wrap (((BitVec.ofInt 8 ((gb t i : Nat) : Int) &&& BitVec.ofInt 8 15).toNat : Nat) : Int))) (.int .u8 ((gb t i % 16 : Nat) : Int)) ((by rw [show gb t i % 16 = gb t i &&& 15 from (Nat.and_two_pow_sub_one_eq_mod _ 4).symm]; exact cv_and_u8 (a := gb t i) (b := 15) hgb (by decide))) 45 (.int .u8 ((gb t i : Nat) : Int)) hS9 <| Dc0 1 [11] 47 (.int .u8 (IntKind.u8.wrap (((gb t i % 16 : Nat) : Int) + 1))) (.int .u8 (((gb t i % 16) + 1 : Nat) : Int)) (cv_u8 (by omega)) hS9 <| Dq 12 rfl (fun _ hS => (rd_scut (by kernel_rfl) rfl (.inr ⟨_, _, rfl, rfl⟩) (.inr ⟨_, _, rfl, rfl⟩) (by omega) (by show _ ≤ 16; omega))) hS9 <| Dq 13 rfl (fun _ hS => (rd_sadd (by kernel_rfl) rfl rfl (by simp <;> omega))) hS9 ?_
 replace hH : Hp w w12 _ _ ([_, _] ++ []) := hH
 refine gds 14 (Sc rfl rfl (WriteString_ct b1 209 (Pp b1 0) v ([39] ++ (t.take i).flatMap quoteB) (([92, 120] ++ (([48, 49, 50, 51, 52, 53, 54, 55, 56, 57, 97, 98, 99, 100, 101, 102].drop ((gb t i) / 16)).take ((((gb t i) / 16) + 1) - ((gb t i) / 16)))) ++ (([48, 49, 50, 51, 52, 53, 54, 55, 56, 57, 97, 98, 99, 100, 101, 102].drop (gb t i % 16)).take (((gb t i % 16) + 1) - (gb t i % 16)))) _ (.inr rfl) hH.mine lies_bd (by simp only [List.length_append, List.length_cons, List.length_nil, List.length_take, List.length_drop]; omega)) ?_)
 rintro _ w14 ⟨v13, rfl, hF15⟩
 replace hH := hH.turns hF15
 replace hH := hH.n2
 refine Nl (hH.sb sln) fun hS9 => gdn [(0, .string (bs t)), (3, Pp b1 0), (9, Ni t.length), (10, Ni i)] <| bkN <| bkN <| sw_next <| sw_region <| Gw0 1 51 ((i : Int) + 1) ((i + 1 : Nat) : Int) <| Go1 1 10 (Ni (i + 1)) <| Dd <| rnd_end (g := (i, v)) (i + 1, v13) (by kernel_rfl) ?_ ?_
 replace hH := (hH.sb (slk (slk sln))).n2
 · exact ⟨by omega, hH.cast (by rw [take_quote (by omega), hq]; simp)⟩
 · show t.length - (i + 1) < t.length - i; omega
 have hlow := hg3
 refine Go1 4 29 (.bool (decide (((gb t i : Nat) : Int) > (126 : Int)))) <| Dn <| If rfl (fun hc5 => ?_) (fun hc5 => ?_)
 have hw := hc5
 have hq := q_hex ⟨gb t i, hgb⟩ (by show Lib.indexByte _ (UInt8.ofNat (gb t i)) < 0; omega) (by show gb t i < 32 ∨ 126 < gb t i; omega)
 refine Dr hH sln ?_
 clear hH; intro w16 hH hS9
 refine Dc1 2 [0,1] 37 (.int .u8 (Int.fdiv ((gb t i : Nat) : Int) (2 ^ 4))) (.int .u8 (((gb t i) / 16 : Nat) : Int)) (cv_shr) 36 (.int .u8 ((gb t i : Nat) : Int)) hS9 <| Dc1 2 [2,3] 39 (.int .u8 (Int.fdiv ((gb t i : Nat) : Int) (2 ^ 4))) (.int .u8 (((gb t i) / 16 : Nat) : Int)) (cv_shr) 38 (.int .u8 ((gb t i : Nat) : Int)) hS9 <| Dc0 1 [4] 40 (.int .u8 (IntKind.u8.wrap ((((gb t i) / 16 : Nat) : Int) + 1))) (.int .u8 ((((gb t i) / 16) + 1 : Nat) : Int)) (cv_u8 (by omega)) hS9 <| Dq 5 rfl (fun _ hS => (rd_scut (by kernel_rfl) rfl (.inr ⟨_, _, rfl, rfl⟩) (.inr ⟨_, _, rfl, rfl⟩) (by omega) (by show _ ≤ 16; omega))) hS9 <| Dq 6 rfl (fun _ hS => (rd_sadd (by kernel_rfl) rfl rfl (by simp <;> omega))) hS9 <| Dc1 2 [7,8] 44 (.int .u8 (IntKind.u8.wrap (((BitVec.ofInt 8 ((gb t i : Nat) : Int) &&& BitVec.ofInt 8 15).toNat : Nat) : Int))) (.int .u8 ((gb t i % 16 : Nat) : Int)) ((by rw [show gb t i % 16 = gb t i &&& 15 from (Nat.and_two_pow_sub_one_eq_mod _ 4).symm]; exact cv_and_u8 (a := gb t i) (b := 15) hgb (by decide))) 43 (.int .u8 ((gb t i : Nat) : Int)) hS9 <| gdk [(0, .string (bs t)), (3, Pp b1 0), (5, .int .u8 ((gb t i : Nat) : Int)), (9, Ni t.length), (10, Ni i), (42, .string (bs ([92, 120] ++ (([48, 49, 50, 51, 52, 53, 54, 55, 56, 57, 97, 98, 99, 100, 101, 102].drop ((gb t i) / 16)).take ((((gb t i) / 16) + 1) - ((gb t i) / 16)))))), (44, .int .u8 ((gb t i % 16 : Nat) : Int))] <| Dc1 2 [9,10] 46 (.int .u8 (IntKind.u8.wrap (((BitVec.ofInt 8 ((gb t i : Nat) : Int) &&& BitVec.ofInt 8 15).toNat : Nat) : Int))) (.int .u8 ((gb t i % 16 : Nat) : Int)) ((by rw [show gb t i % 16 = gb t i &&& 15 from (Nat.and_two_pow_sub_one_eq_mod _ 4).symm]; exact cv_and_u8 (a := gb t i) (b := 15) hgb (by decide))) 45 (.int .u8 ((gb t i : Nat) : Int)) hS9 <| Dc0 1 [11] 47 (.int .u8 (IntKind.u8.wrap (((gb t i % 16 : Nat) : Int) + 1))) (.int .u8 (((gb t i % 16) + 1 : Nat) : Int)) (cv_u8 (by omega)) hS9 <| Dq 12 rfl (fun _ hS => (rd_scut (by kernel_rfl) rfl (.inr ⟨_, _, rfl, rfl⟩) (.inr ⟨_, _, rfl, rfl⟩) (by omega) (by show _ ≤ 16; omega))) hS9 <| Dq 13 rfl (fun _ hS => (rd_sadd (by kernel_rfl) rfl rfl (by simp <;> omega))) hS9 ?_
 replace hH : Hp w w16 _ _ ([_, _] ++ []) := hH
 refine gds 14 (Sc rfl rfl (WriteString_ct b1 209 (Pp b1 0) v ([39] ++ (t.take i).flatMap quoteB) (([92, 120] ++ (([48, 49, 50, 51, 52, 53, 54, 55, 56, 57, 97, 98, 99, 100, 101, 102].drop ((gb t i) / 16)).take ((((gb t i) / 16) + 1) - ((gb t i) / 16)))) ++ (([48, 49, 50, 51, 52, 53, 54, 55, 56, 57, 97, 98, 99, 100, 101, 102].drop (gb t i % 16)).take (((gb t i % 16) + 1) - (gb t i % 16)))) _ (.inr rfl) hH.mine lies_bd (by simp only [List.length_append, List.length_cons, List.length_nil, List.length_take, List.length_drop]; omega)) ?_)
 rintro _ w18 ⟨v17, rfl, hF19⟩
 replace hH := hH.turns hF19
 replace hH := hH.n2
 refine Nl (hH.sb sln) fun hS9 => gdn [(0, .string (bs t)), (3, Pp b1 0), (9, Ni t.length), (10, Ni i)] <| bkN <| bkN <| sw_next <| sw_region <| Gw0 1 51 ((i : Int) + 1) ((i + 1 : Nat) : Int) <| Go1 1 10 (Ni (i + 1)) <| Dd <| rnd_end (g := (i, v)) (i + 1, v17) (by kernel_rfl) ?_ ?_
 replace hH := (hH.sb (slk (slk sln))).n2
 · exact ⟨by omega, hH.cast (by rw [take_quote (by omega), hq]; simp)⟩
 · show t.length - (i + 1) < t.length - i; omega
 have hw := hc5
 have hq := q_one ⟨gb t i, hgb⟩ (by show Lib.indexByte _ (UInt8.ofNat (gb t i)) < 0; omega) (by show 32 ≤ gb t i; omega) (by show gb t i ≤ 126; omega)
 refine sw_region <| Go1 1 18 (.int .u8 ((gb t i : Nat) : Int)) ?_
 replace hH : Hp w w7 _ _ ([_, _] ++ []) := hH
 refine gl_st (Sc rfl rfl (WriteByte_ct b1 209 (Pp b1 0) v ([39] ++ (t.take i).flatMap quoteB) (gb t i) _ (.inr rfl) hH.mine lies_bd (by omega) (by simp only [List.length_append, List.length_cons, List.length_nil, List.length_take, List.length_drop]; omega)) ?_)
 rintro _ w21 ⟨v20, rfl, hF22⟩
 replace hH := hH.turns hF22
 replace hH := hH.n2
 refine Dd <| bkN <| bkN <| sw_next <| sw_region <| Gw0 1 51 ((i : Int) + 1) ((i + 1 : Nat) : Int) <| Go1 1 10 (Ni (i + 1)) <| Dd <| rnd_end (g := (i, v)) (i + 1, v20) (by kernel_rfl) ?_ ?_
 replace hH := (hH.sb (slk (slk sln))).n2
 · exact ⟨by omega, hH.cast (by rw [take_quote (by omega), hq]; simp)⟩
 · show t.length - (i + 1) < t.length - i; omega
 refine sw_exit <| thX <| thX <| bkH <| sw_next <| sw_sr ?_
 replace hH : Hp w w6 _ _ ([_, _] ++ []) := hH
 refine gl_st (Sc rfl rfl (WriteByte_ct b1 209 (Pp b1 0) v ([39] ++ (t.take i).flatMap quoteB) 39 _ (.inr rfl) hH.mine lies_bd (by omega) (by have h9 := quoteB_flat (t.take i); rw [List.length_take] at h9; simp only [List.length_append, List.length_cons, List.length_nil]; omega)) ?_)
 rintro _ w24 ⟨v23, rfl, hF25⟩
 replace hH := hH.turns hF25
 replace hH := hH.n2
 refine Dn <| sw_sr ?_
 replace hH : Hp w w24 _ _ ([_, _] ++ []) := hH
 refine gl_st (Sc rfl rfl (String_ct b1 209 (Pp b1 0) v23 (([39] ++ (t.take i).flatMap quoteB) ++ [UInt8.ofNat 39]) _ hH.mine (.inl (by simp))) ?_)
 rintro _ w26 ⟨rfl, hF27⟩
 replace hH := hH.turns hF27
 replace hH : Hp w w26 _ _ [] := hH
 refine Go1 1 2 (.string (bs (([39] ++ (t.take i).flatMap quoteB) ++ [UInt8.ofNat 39]))) <| Dn <| Rt1 rfl rfl ?_
 have hie : i = t.length := by omega
 subst hie
 exact ⟨by rw [List.take_length]; rfl, (hH.sb sln).fresh⟩
end Go.Proofs.YtllfpnbhjfadiaaGreatDoor
/- Layer 4 (syntax): tokens left to read, trees handed out, how its functions panic. Plain theorems. -/
set_option linter.unusedVariables false
namespace Go.Proofs.YtllfpnbhjfadiaaGreatDoor
open Go.RowKit Go.SW
theorem hd_at {l : List Tk} (h : 0 < l.length) : l[0]? = some (hdT l) := by
  cases l with
  | nil => simp at h
  | cons a t => rfl
theorem hd_at1 {l : List Tk} (h : 1 < l.length) : l[1]? = some (hdT l.tail) := by
  match l, h with
  | a :: b :: t, _ => rfl
theorem tk_tail {c : Zone} {A2 : Option Addr} {c2 : Nat} {l : List Tk} (h : Row c (.slice A2 (l.length - 1) c2) 7 (l.length - 1) (((rowC tkC l).drop (1 * 7)).take ((l.length - 1) * 7))) : Row c (.slice A2 l.tail.length c2) 7 l.tail.length (rowC tkC l.tail) := by
  rw [rowC_drop tkC_len, rowC_take tkC_len, List.drop_one, List.take_of_length_le (by simp)] at h
  rw [List.length_tail]
  exact h
theorem toksF_ends (s : List UInt8) : ∀ (k p : Nat) (acc l : List Tk), toksF s k p acc = .ok l → ∃ q t, l = q ++ [t] ∧ t.kind = 6
  | 0, p, acc, l, h => by cases h
  | k + 1, p, acc, l, h => by
    rw [toksF_succ] at h
    split at h
    · cases h; exact ⟨_, _, rfl, rfl⟩
    split at h
    · split at h <;> exact toksF_ends s k _ _ _ h
    split at h
    · exact toksF_ends s k _ _ _ h
    split at h
    · cases h
    · exact toksF_ends s k _ _ _ h
structure TL (l : List Tk) : Prop where
  ends : ∃ q t, l = q ++ [t] ∧ t.kind = 6
  ok : TksOk l
  le : l.length ≤ 8193
section
variable {l : List Tk}
theorem TL.pos (h : TL l) : 0 < l.length := by
  obtain ⟨q, t, rfl, _⟩ := h.ends
  simp
theorem TL.tail (h : TL l) (hk : (hdT l).kind ≠ 6) : TL l.tail := by
  obtain ⟨q, t, rfl, ht⟩ := h.ends
  cases q with
  | nil => exact absurd ht hk
  | cons a q =>
    refine ⟨⟨q, t, rfl, ht⟩, fun x hx => h.ok x (List.mem_cons_of_mem a hx), ?_⟩
    have := h.le
    simp only [List.cons_append, List.length_cons, List.tail_cons] at this ⊢
    omega
theorem TL.one (h : TL l) (hk : (hdT l).kind ≠ 6) : 1 < l.length := by
  have := (h.tail hk).pos
  rw [List.length_tail] at this
  omega
theorem TL.hd (h : TL l) : (hdT l).text.length ≤ 8192 ∧ (hdT l).cl.Ok ∧ (hdT l).pos ≤ 8192 := by
  refine h.ok _ ?_
  have := h.pos
  cases l with
  | nil => simp at this
  | cons a t => exact List.mem_cons_self ..
theorem sg_kind {c : UInt8} {s : List UInt8} (h : sgF4 l = c :: s) : (hdT l).kind = 5 := by
  unfold sgF4 at h
  split at h
  · assumption
  · cases h
end
section
variable {k deep : Nat} {l l2 : List Tk} {er : Er} {n : Nd} {acc : List Nd}
theorem choice_err (h : rowF4 k deep l = .error er) : choiceF (k + 1) deep l = .error er := by rw [choiceF, h]; rfl
theorem choice_ok (h : rowF4 k deep l = .ok (n, l2)) : choiceF (k + 1) deep l = altF k deep [n] l2 := by rw [choiceF, h]; rfl
theorem alt_err (hs : sgF4 l = [47]) (h : rowF4 k deep l.tail = .error er) : altF (k + 1) deep acc l = .error er := by rw [altF, if_pos hs, h]; rfl
theorem alt_more (hs : sgF4 l = [47]) (h : rowF4 k deep l.tail = .ok (n, l2)) : altF (k + 1) deep acc l = altF k deep (acc ++ [n]) l2 := by rw [altF, if_pos hs, h]; rfl
theorem alt_end (hs : ¬ sgF4 l = [47]) : altF (k + 1) deep acc l = .ok (joinF 7 acc, l) := by rw [altF, if_neg hs]
theorem row_err (h : partsF4 k deep [] l = .error er) : rowF4 (k + 1) deep l = .error er := by rw [rowF4, h]; rfl
theorem row_none (h : partsF4 k deep [] l = .ok ([], l2)) : rowF4 (k + 1) deep l = .ok (.mk 1 [] Cl.zero [] (hdT l2).pos, l2) := by rw [rowF4, h]; rfl
theorem row_some (h : partsF4 k deep [] l = .ok (acc, l2)) (ha : 0 < acc.length) : rowF4 (k + 1) deep l = .ok (joinF 6 acc, l2) := by
  rw [rowF4, h]
  cases acc with
  | nil => simp at ha
  | cons a t => rfl
theorem parts_err (h : partF4 k deep l = .error er) : partsF4 (k + 1) deep acc l = .error er := by rw [partsF4, h]; rfl
theorem parts_none (h : partF4 k deep l = .ok (none, l2)) : partsF4 (k + 1) deep acc l = .ok (acc, l2) := by rw [partsF4, h]; rfl
theorem parts_some (h : partF4 k deep l = .ok (some n, l2)) : partsF4 (k + 1) deep acc l = partsF4 k deep (acc ++ [n]) l2 := by rw [partsF4, h]; rfl
theorem within_deep : withinF (k + 1) 24 l = .error (stopF 2 l) := by rw [withinF, if_pos rfl]
theorem within_err (hd : ¬ deep = 24) (h : choiceF k (deep + 1) l.tail = .error er) : withinF (k + 1) deep l = .error er := by rw [withinF, if_neg hd, h]; rfl
theorem within_wrong (hd : ¬ deep = 24) (h : choiceF k (deep + 1) l.tail = .ok (n, l2)) (hs : ¬ sgF4 l2 = [41]) : withinF (k + 1) deep l = .error (wrongF l2) := by rw [withinF, if_neg hd, h]; exact if_neg hs
theorem within_ok (hd : ¬ deep = 24) (h : choiceF k (deep + 1) l.tail = .ok (n, l2)) (hs : sgF4 l2 = [41]) : withinF (k + 1) deep l = .ok (n, l2.tail) := by rw [withinF, if_neg hd, h]; exact if_pos hs
def kdF (l : List Tk) : Int := if sgF4 l = [38] then 11 else if sgF4 l = [33] then 12 else 0
def sufF (n : Nd) (l2 : List Tk) : Nd × List Tk := if sgF4 l2 = [43] then (.mk 10 [] Cl.zero [n] n.pos, l2.tail) else if sgF4 l2 = [42] then (.mk 9 [] Cl.zero [n] n.pos, l2.tail) else if sgF4 l2 = [63] then (.mk 8 [] Cl.zero [n] n.pos, l2.tail) else (n, l2)
def preF (kd : Int) (n : Nd) (l : List Tk) : Nd := if kd = 0 then n else .mk kd [] Cl.zero [n] (hdT l).pos
def restF (l : List Tk) : List Tk := if kdF l = 0 then l else l.tail
theorem part_err (h : oneF4 k deep (restF l) = .error er) : partF4 (k + 1) deep l = .error er := by
  rw [partF4]
  change Except.bind (oneF4 k deep (restF l)) _ = _
  rw [h]; rfl
theorem part_none (h : oneF4 k deep (restF l) = .ok (none, l2)) (hk : kdF l = 0) : partF4 (k + 1) deep l = .ok (none, l2) := by
  rw [partF4]
  change Except.bind (oneF4 k deep (restF l)) _ = _
  rw [h]; exact if_pos hk
theorem part_wrong (h : oneF4 k deep (restF l) = .ok (none, l2)) (hk : ¬ kdF l = 0) : partF4 (k + 1) deep l = .error (wrongF l2) := by
  rw [partF4]
  change Except.bind (oneF4 k deep (restF l)) _ = _
  rw [h]; exact if_neg hk
theorem part_some (h : oneF4 k deep (restF l) = .ok (some n, l2)) : partF4 (k + 1) deep l = .ok (some (preF (kdF l) (sufF n l2).1 l), (sufF n l2).2) := by
  rw [partF4]
  change Except.bind (oneF4 k deep (restF l)) _ = _
  rw [h]; rfl
theorem one_arrow (h : (hdT l).kind = 1) (h2 : (hdT l.tail).kind = 2) : oneF4 (k + 1) deep l = .ok (none, l) := by rw [oneF4]; simp only [h, h2, if_true]
theorem one_name (h : (hdT l).kind = 1) (h2 : ¬ (hdT l.tail).kind = 2) : oneF4 (k + 1) deep l = .ok (some (.mk 5 (hdT l).text (hdT l).cl [] (hdT l).pos), l.tail) := by rw [oneF4]; simp only [h, h2, if_true, if_false]
theorem one_lit (h : (hdT l).kind = 3) : oneF4 (k + 1) deep l = .ok (some (.mk 2 (hdT l).text (hdT l).cl [] (hdT l).pos), l.tail) := by rw [oneF4]; simp only [h]; rfl
theorem one_set (h : (hdT l).kind = 4) : oneF4 (k + 1) deep l = .ok (some (.mk 3 (hdT l).text (hdT l).cl [] (hdT l).pos), l.tail) := by rw [oneF4]; simp only [h]; rfl
theorem one_any (h : (hdT l).kind = 5) (ht : (hdT l).text = [46]) : oneF4 (k + 1) deep l = .ok (some (.mk 4 [] (hdT l).cl [] (hdT l).pos), l.tail) := by rw [oneF4]; simp only [h, ht]; rfl
theorem one_err (h : (hdT l).kind = 5) (ht : (hdT l).text = [40]) (hw : withinF k deep l = .error er) : oneF4 (k + 1) deep l = .error er := by rw [oneF4]; simp only [h, ht, hw]; rfl
theorem one_within (h : (hdT l).kind = 5) (ht : (hdT l).text = [40]) (hw : withinF k deep l = .ok (n, l2)) : oneF4 (k + 1) deep l = .ok (some n, l2) := by rw [oneF4]; simp only [h, ht, hw]; rfl
theorem one_sign (h : (hdT l).kind = 5) (ht : ¬ (hdT l).text = [46]) (ht2 : ¬ (hdT l).text = [40]) : oneF4 (k + 1) deep l = .ok (none, l) := by rw [oneF4]; simp only [h, ht, ht2]; rfl
theorem one_none (h1 : ¬ (hdT l).kind = 1) (h3 : ¬ (hdT l).kind = 3) (h4 : ¬ (hdT l).kind = 4) (h5 : ¬ (hdT l).kind = 5) : oneF4 (k + 1) deep l = .ok (none, l) := by rw [oneF4]; simp only [h1, h3, h4, h5, if_false]
end
abbrev fltP (fb : Nat) : List PanicEntry := [{ v := .iface 94 (.pointer (some ⟨fb, 0, none⟩)), recovered := false }]
abbrev fltB (er : Er) (fb : Nat) : Own := .blk fb 97 [.int .i64 ((er.1 : Nat) : Int), .int .i64 er.2]
def PanF (E : Er → Prop) (mine : List Own) (w : World) (ch : List PanicEntry) (w' : World) : Prop := ∃ er fb, E er ∧ ch = fltP fb ∧ Turn w w' mine [fltB er fb]
theorem PanF.up {E E0 : Er → Prop} {mine mine0 os : List Own} {w0 w w' : World} {z : Zone} {ch : List PanicEntry} (h : PanF E mine w ch w') (hH : Hp w0 w z (blksOf mine0) (mine ++ os)) (hE : ∀ er, E er → E0 er) : PanF E0 mine0 w0 ch w' := by
  obtain ⟨er, fb, he, hc, hT⟩ := h
  exact ⟨er, fb, hE er he, hc, ((hH.turns hT).sublist (List.sublist_append_right os _)).turned⟩
theorem TvOk.mono {c c' : Zone} (hc : c.le c') : ∀ {t : Tv}, TvOk c t → TvOk c' t
  | _, .mk h1 h2 h3 h4 h5 h6 => .mk h1 (h2.mono hc) h3 h4 h5 fun x hx => TvOk.mono hc (h6 x hx)
def TvsOk (c : Zone) (ts : List Tv) : Prop := ∀ x ∈ ts, TvOk c x
theorem TvsOk.mono {c c' : Zone} {ts : List Tv} (h : TvsOk c ts) (hc : c.le c') : TvsOk c' ts := fun x hx => (h x hx).mono hc
theorem TvsOk.add {c : Zone} {ts : List Tv} {t : Tv} (h : TvsOk c ts) (ht : TvOk c t) : TvsOk c (ts ++ [t]) := fun x hx => by
  rcases List.mem_append.1 hx with hx | hx
  · exact h x hx
  · obtain rfl := List.mem_singleton.1 hx; exact ht
theorem TvsOk.nil {c : Zone} : TvsOk c [] := fun x hx => by cases hx
theorem TvsOk.one {c : Zone} {t : Tv} (ht : TvOk c t) : TvsOk c [t] := fun x hx => by obtain rfl := List.mem_singleton.1 hx; exact ht
def Tv.leaf (k : Int) (t : List UInt8) (c : Cl) (p : Int) : Tv := .mk k t c none 0 [] p
theorem TvOk.leaf {c : Zone} {k : Int} {t : List UInt8} {cl : Cl} {p : Int} (h1 : cl.Ok) (h3 : t.length ≤ 8192) (h4 : -9223372036854775808 ≤ k ∧ k ≤ 9223372036854775807) (h5 : -9223372036854775808 ≤ p ∧ p ≤ 9223372036854775807) : TvOk c (Tv.leaf k t cl p) :=
  .mk h1 (Row.nil _ _) (by omega) h4 h5 fun x hx => by cases hx
def joinT (k : Int) (A : Option Addr) (cap : Nat) (ts : List Tv) : Tv :=
  match ts with
  | [x] => x
  | ts => .mk k [] Cl.zero A cap ts ((ts.head?.map Tv.pos).getD 0)
theorem Tv.nd_pos (t : Tv) : t.nd.pos = t.pos := by cases t; rfl
theorem joinT_nd (k : Int) (A : Option Addr) (cap : Nat) (ts : List Tv) : (joinT k A cap ts).nd = joinF k (ts.map Tv.nd) := by
  match ts with
  | [] => rfl
  | [x] => rfl
  | x :: y :: s => simp [joinT, joinF, Tv.nd, Tv.nds_eq, Tv.nd_pos]
theorem TvOk.pos_ok {c : Zone} {t : Tv} (h : TvOk c t) : -9223372036854775808 ≤ t.pos ∧ t.pos ≤ 9223372036854775807 := by
  cases h with | mk h1 h2 h3 h4 h5 h6 => exact h5
theorem joinT_ok {c : Zone} {k : Int} {A : Option Addr} {cap : Nat} {ts : List Tv} (hk : -9223372036854775808 ≤ k ∧ k ≤ 9223372036854775807) (hr : Row c (.slice A ts.length cap) 8 ts.length (rowC tvC ts)) (h : TvsOk c ts) : TvOk c (joinT k A cap ts) := by
  match ts, hr, h with
  | [], hr, h => exact .mk Cl.zero_ok hr (by simp) hk (by decide) h
  | [x], hr, h => exact h x (List.mem_singleton.2 rfl)
  | x :: y :: s, hr, h => exact .mk Cl.zero_ok hr (by simp) hk (h x (List.mem_cons_self ..)).pos_ok h
theorem TvOk.wrap {c : Zone} {k : Int} {A : Option Addr} {cap : Nat} {t : Tv} {p : Int} (hk : -9223372036854775808 ≤ k ∧ k ≤ 9223372036854775807) (hp : -9223372036854775808 ≤ p ∧ p ≤ 9223372036854775807) (hr : Row c (.slice A 1 cap) 8 1 (rowC tvC [t])) (ht : TvOk c t) : TvOk c (.mk k [] Cl.zero A cap [t] p) :=
  .mk Cl.zero_ok hr (Nat.zero_le _) hk hp (TvsOk.one ht)
theorem row_isNone {c : Zone} {A : Option Addr} {cap n : Nat} {cs : List Value} (h : Row c (.slice A n cap) 8 n cs) (ha : A.isNone = true) : n = 0 := by
  obtain ⟨h0, A', c', h1, h3, h4, h5⟩ := h
  cases h1
  rcases Nat.eq_zero_or_pos n with hn | hn
  · exact hn
  · obtain ⟨ad, e, _⟩ := h5 0 _ (List.getElem?_eq_getElem (by omega))
    rw [e] at ha; cases ha
theorem kd_kind {l : List Tk} (h : ¬ kdF l = 0) : (hdT l).kind = 5 := by
  unfold kdF at h
  split at h
  · exact sg_kind ‹_›
  split at h
  · exact sg_kind ‹_›
  · exact absurd rfl h
theorem rowC_last {β : Type} {f : β → List Value} {m : Nat} (hf : ∀ x, (f x).length = m) (ts : List β) (z x : β) : (rowC f (ts ++ [z])).take (ts.length * m) ++ f x ++ (rowC f (ts ++ [z])).drop (ts.length * m + (f x).length) = rowC f (ts ++ [x]) := by
  rw [rowC_set hf (by simp)]
  simp
abbrev rdO (g : Nat) (A : Option Addr) (n cap deep : Nat) : Own := .blk g 129 [.slice A n cap, .int .i64 ((deep : Nat) : Int)]
abbrev rdM (g : Nat) (A : Option Addr) (n cap deep : Nat) (pl : Pl) : List Own := [rdO g A n cap deep, plO pl]
def RdPost (R : Except Er (Nd × List Tk)) (c : Zone) (g deep n0 : Nat) (mine : List Own) (pl : Pl) (w : World) (v : Value) (w' : World) : Prop :=
  ∃ t l2 A2 c2 pl2, R = .ok (Tv.nd t, l2) ∧ v = .agg (tvC t).toArray ∧ TL l2 ∧ l2.length ≤ n0 ∧ (pz pl).le (pz pl2) ∧ TvOk (pz pl2) t ∧ Row c (.slice A2 l2.length c2) 7 l2.length (rowC tkC l2) ∧ Turn w w' mine [rdO g A2 l2.length c2 deep, plO pl2]
def RdC (f : FuncId) (F : Nat → Nat → List Tk → Except Er (Nd × List Tk)) (b d k : Nat) : Prop :=
  ∀ (g cap deep : Nat) (A : Option Addr) (l : List Tk) (pl : Pl) (c : Zone) (w : World), 8 * l.length + b ≤ k → deep ≤ 24 → TL l → (d = 1 → (hdT l).kind ≠ 6) → c.le (off w (blksOf (rdM g A l.length cap deep pl))) → Mine w (rdM g A l.length cap deep pl) → Row c (.slice A l.length cap) 7 l.length (rowC tkC l) →
    FunP Tryz.prog f [Pp g 0] w (RdPost (F k deep l) c g deep (l.length - d) (rdM g A l.length cap deep pl) pl w) (PanF (fun er => F k deep l = .error er) (rdM g A l.length cap deep pl) w)
def Tv.zero : Tv := .leaf 0 [] Cl.zero 0
def OnPost (R : Except Er (Option Nd × List Tk)) (c : Zone) (g deep n0 : Nat) (mine : List Own) (pl : Pl) (w : World) (v : Value) (w' : World) : Prop :=
  ∃ o l2 A2 c2 pl2, R = .ok (Option.map Tv.nd o, l2) ∧ v = .tuple #[.agg (tvC (o.getD Tv.zero)).toArray, .bool o.isSome] ∧ TL l2 ∧ l2.length + o.toList.length ≤ n0 ∧ (pz pl).le (pz pl2) ∧ TvsOk (pz pl2) o.toList ∧ Row c (.slice A2 l2.length c2) 7 l2.length (rowC tkC l2) ∧ Turn w w' mine [rdO g A2 l2.length c2 deep, plO pl2]
def OnC (k : Nat) : Prop :=
  ∀ (g cap deep : Nat) (A : Option Addr) (l : List Tk) (pl : Pl) (c : Zone) (w : World), 8 * l.length + 4 ≤ k → deep ≤ 24 → TL l → c.le (off w (blksOf (rdM g A l.length cap deep pl))) → Mine w (rdM g A l.length cap deep pl) → Row c (.slice A l.length cap) 7 l.length (rowC tkC l) →
    FunP Tryz.prog 172 [Pp g 0] w (OnPost (oneF4 k deep l) c g deep l.length (rdM g A l.length cap deep pl) pl w) (PanF (fun er => oneF4 k deep l = .error er) (rdM g A l.length cap deep pl) w)
abbrev paM (g : Nat) (A : Option Addr) (n cap deep : Nat) (pl : Pl) (b : Nat) (v : Value) (ts : List Tv) : List Own := [rdO g A n cap deep, plO pl, .blk b 39 [v], .row v 41 8 ts.length (rowC tvC ts)]
def PaPost (R : Except Er (Option Nd × List Tk)) (c : Zone) (g deep n0 : Nat) (mine : List Own) (pl : Pl) (b : Nat) (x : Value) (ts : List Tv) (w : World) (v : Value) (w' : World) : Prop :=
  ∃ o l2 A2 c2 pl2 v2, R = .ok (Option.map Tv.nd o, l2) ∧ v = .bool o.isSome ∧ TL l2 ∧ l2.length + o.toList.length ≤ n0 ∧ (pz pl).le (pz pl2) ∧ TvsOk (pz pl2) o.toList ∧ Row c (.slice A2 l2.length c2) 7 l2.length (rowC tkC l2) ∧ (o = none → v2 = x) ∧ Turn w w' mine (paM g A2 l2.length c2 deep pl2 b v2 (ts ++ o.toList))
def PaC (k : Nat) : Prop :=
  ∀ (g cap deep : Nat) (A : Option Addr) (l : List Tk) (pl : Pl) (b : Nat) (x : Value) (ts : List Tv) (c : Zone) (w : World), 8 * l.length + 5 ≤ k → deep ≤ 24 → TL l → ts.length ≤ 8193 → c.le (off w (blksOf (paM g A l.length cap deep pl b x ts))) → Mine w (paM g A l.length cap deep pl b x ts) → Row c (.slice A l.length cap) 7 l.length (rowC tkC l) →
    FunP Tryz.prog 142 [Pp g 0, Pp b 0] w (PaPost (partF4 k deep l) c g deep l.length (paM g A l.length cap deep pl b x ts) pl b x ts w) (PanF (fun er => partF4 k deep l = .error er) (paM g A l.length cap deep pl b x ts) w)
end Go.Proofs.YtllfpnbhjfadiaaGreatDoor
/- Layer 4 (syntax): the reader of tokens: what the program's functions answer. -/
set_option maxRecDepth 100000
set_option maxHeartbeats 2000000
set_option linter.unusedVariables false
set_option linter.unusedSimpArgs false
namespace Go.Proofs.YtllfpnbhjfadiaaGreatDoor
open Go.RowKit Go.SW

theorem YSign_ct (g cap : Nat) (A : Option Addr) (l : List Tk) (w : World) (h0 : w.cell? ⟨g, 0, none⟩ = some (.slice A l.length cap)) (hT : Row w.cell? (.slice A l.length cap) 7 l.length (rowC tkC l)) (hl : 0 < l.length) :
    Fun Tryz.prog 107 [.pointer (some ⟨g, 0, none⟩)] w fun v w' => v = .string (bs (sgF4 l)) ∧ Fresh w w' [] := by
 refine fun_of_sw Tryz.func107 rfl 18 rfl rfl ?_
 have hH := Hp.start w
 refine sw_sr <| Go0 1 <| Dn <| sw_seq <| sw_sr <| Go1 3 5 (.pointer (some ⟨g, 0, none⟩)) <| Gq rfl (rd_load (by kernel_rfl) rfl (hH.zin _ _ h0)) ?_
 obtain ⟨p1, hi3, hp2⟩ := hT.idx 0 (by omega) (by decide)
 refine Gq rfl (Ix (e := 131) 7 rfl rfl hi3) <| Go1 1 8 (.pointer (some p1)) <| Gq rfl (rd_load (by kernel_rfl) rfl (hH.zin _ _ (hp2 0 _ (by decide) (rowC_at tkC_len (hd_at hl) 0 (by decide) rfl)))) <| Go1 1 10 (.bool ((((hdT l).kind : Nat) : Int) != (5 : Int))) <| Dn <| If rfl (fun hc1 => ?_) (fun hc1 => ?_)
 have hk := hc1
 have hs : sgF4 l = [] := if_neg (by omega)
 refine sw_sr <| Go1 1 2 (.string (bs [])) <| Dn <| Rt1 rfl rfl ?_
 exact ⟨by rw [hs], (hH.sb sln).fresh⟩
 have hk := hc1
 have hs : sgF4 l = (hdT l).text := if_pos (by omega)
 refine Sk <| sw_sr <| Go1 3 13 (.pointer (some ⟨g, 0, none⟩)) <| Gq rfl (rd_load (by kernel_rfl) rfl (hH.zin _ _ h0)) ?_
 obtain ⟨p4, hi6, hp5⟩ := hT.idx 0 (by omega) (by decide)
 refine Gq rfl (Ix (e := 131) 7 rfl rfl hi6) <| Go1 1 16 (.pointer (some (p4.add 1))) <| Gq rfl (rd_load (by kernel_rfl) rfl (hH.zin _ _ (hp5 1 _ (by decide) (rowC_at tkC_len (hd_at hl) 1 (by decide) rfl)))) <| Go1 1 2 (.string (bs ((hdT l).text))) <| Dn <| Rt1 rfl rfl ?_
 exact ⟨by rw [hs], (hH.sb sln).fresh⟩
theorem YNext_ct (g cap deep : Nat) (A : Option Addr) (l : List Tk) (c : Zone) (w : World) (hc : c.le (off w (blksOf [rdO g A l.length cap deep]))) (hM : Mine w [rdO g A l.length cap deep]) (hT : Row c (.slice A l.length cap) 7 l.length (rowC tkC l)) (hl : 0 < l.length) :
    Fun Tryz.prog 105 [Pp g 0] w fun v w' => ∃ A2 c2, v = .agg (tkC (hdT l)).toArray ∧ Row c (.slice A2 l.tail.length c2) 7 l.tail.length (rowC tkC l.tail) ∧ Turn w w' [rdO g A l.length cap deep] [rdO g A2 l.tail.length c2 deep] := by
 obtain ⟨Ax, cx, hx9, hx1, hx2⟩ := hT.form
 cases hx9
 refine fun_of_sw Tryz.func105 rfl 19 rfl rfl ?_
 have hH := (Hp.start_mine hM).zsub hc
 refine sw_sr <| gl_st (Alc [.int .i64 0, .string (bs []), .int .u64 0, .int .u64 0, .int .u64 0, .int .u64 0, .int .i64 0] rfl hH ?_)
 clear hH; intro b1 w2 hH
 refine Dn <| sw_sr <| Go1 3 6 (Pp g 0) <| Gq rfl (Lk 0 hH rfl rfl rfl) ?_
 obtain ⟨p3, hi5, hp4⟩ := hT.idx 0 (by omega) (by decide)
 refine Gq rfl (Ix (e := 131) 7 rfl rfl hi5) <| Gq rfl (rd_loadZA (by kernel_rfl) hH hp4 rfl 0 rfl [Ni ((hdT l).kind), .string (bs ((hdT l).text)), .int .u64 (((hdT l).cl.a : Nat) : Int), .int .u64 (((hdT l).cl.b : Nat) : Int), .int .u64 (((hdT l).cl.c : Nat) : Int), .int .u64 (((hdT l).cl.d : Nat) : Int), Ni ((hdT l).pos)] (by kernel_rfl) (rowC_all tkC_len (hd_at hl) 0 _ rfl)) <| gl_st (Alc [.int .i64 0, .string (bs []), .int .u64 0, .int .u64 0, .int .u64 0, .int .u64 0, .int .i64 0] rfl hH ?_)
 clear hH; intro b6 w7 hH
 refine gl_st (Ka 2 [Ni ((hdT l).kind), .string (bs ((hdT l).text)), .int .u64 (((hdT l).cl.a : Nat) : Int), .int .u64 (((hdT l).cl.b : Nat) : Int), .int .u64 (((hdT l).cl.c : Nat) : Int), .int .u64 (((hdT l).cl.d : Nat) : Int), Ni ((hdT l).pos)] [Ni ((hdT l).kind), .string (bs ((hdT l).text)), .int .u64 (((hdT l).cl.a : Nat) : Int), .int .u64 (((hdT l).cl.b : Nat) : Int), .int .u64 (((hdT l).cl.c : Nat) : Int), .int .u64 (((hdT l).cl.d : Nat) : Int), Ni ((hdT l).pos)] rfl hH rfl rfl ?_)
 clear hH; intro w8 hH
 refine Dn <| sw_sr <| Go2 4 10 (Pp g 0) 13 (Pp g 0) <| Gq rfl (Lk 0 hH rfl rfl rfl) ?_
 obtain ⟨A9, hk10, hv11⟩ := hT.cut (by decide) 1 l.length (by omega) (by omega)
 refine Gq rfl (rd_cut (e := 131) (m := 7) (by kernel_rfl) (by kernel_rfl) rfl (.inr ⟨_, _, rfl, rfl⟩) (.inl ⟨rfl, rfl⟩) hk10) <| Go1 2 17 (Pp g 0) <| gl_st (Ks 0 (.slice A9 (l.length - 1) (cap - 1)) rfl hH rfl rfl ?_)
 clear hH; intro w12 hH
 refine Dn <| sw_sr <| Gq rfl (La 2 [Ni ((hdT l).kind), .string (bs ((hdT l).text)), .int .u64 (((hdT l).cl.a : Nat) : Int), .int .u64 (((hdT l).cl.b : Nat) : Int), .int .u64 (((hdT l).cl.c : Nat) : Int), .int .u64 (((hdT l).cl.d : Nat) : Int), Ni ((hdT l).pos)] hH rfl rfl) <| gl_st (Ka 1 [Ni ((hdT l).kind), .string (bs ((hdT l).text)), .int .u64 (((hdT l).cl.a : Nat) : Int), .int .u64 (((hdT l).cl.b : Nat) : Int), .int .u64 (((hdT l).cl.c : Nat) : Int), .int .u64 (((hdT l).cl.d : Nat) : Int), Ni ((hdT l).pos)] [Ni ((hdT l).kind), .string (bs ((hdT l).text)), .int .u64 (((hdT l).cl.a : Nat) : Int), .int .u64 (((hdT l).cl.b : Nat) : Int), .int .u64 (((hdT l).cl.c : Nat) : Int), .int .u64 (((hdT l).cl.d : Nat) : Int), Ni ((hdT l).pos)] rfl hH rfl rfl ?_)
 clear hH; intro w13 hH
 refine Dn <| sw_ret <| retC1 rfl (RS.cellA hH 1 (by kernel_rfl) rfl rfl (by kernel_rfl) [Ni ((hdT l).kind), .string (bs ((hdT l).text)), .int .u64 (((hdT l).cl.a : Nat) : Int), .int .u64 (((hdT l).cl.b : Nat) : Int), .int .u64 (((hdT l).cl.c : Nat) : Int), .int .u64 (((hdT l).cl.d : Nat) : Int), Ni ((hdT l).pos)] rfl rfl) ?_
 replace hH := (hH.sb (slk sln)).n1
 have ht : l.tail.length = l.length - 1 := List.length_tail
 exact ⟨A9, cap - 1, rfl, tk_tail hv11, ht ▸ hH.turned⟩
theorem YStop_ct (g cap c : Nat) (A : Option Addr) (l : List Tk) (w : World) (h0 : w.cell? ⟨g, 0, none⟩ = some (.slice A l.length cap)) (hT : Row w.cell? (.slice A l.length cap) 7 l.length (rowC tkC l)) (hl : 0 < l.length) :
    FunP Tryz.prog 60 [.pointer (some ⟨g, 0, none⟩), .int .i64 ((c : Nat) : Int)] w (fun _ _ => False) (PanF (fun er => er = stopF c l) [] w) := by
 refine funP_of_sw Tryz.func60 rfl 15 rfl rfl ?_
 have hH := Hp.start w
 refine sw_region <| Go2 4 4 (Ni c) 7 (.pointer (some ⟨g, 0, none⟩)) <| Gq rfl (rd_load (by kernel_rfl) rfl (hH.zin _ _ h0)) ?_
 obtain ⟨p1, hi3, hp2⟩ := hT.idx 0 (by omega) (by decide)
 refine Gq rfl (Ix (e := 131) 7 rfl rfl hi3) <| Go1 1 10 (.pointer (some (p1.add 6))) <| Gq rfl (rd_load (by kernel_rfl) rfl (hH.zin _ _ (hp2 6 _ (by decide) (rowC_at tkC_len (hd_at hl) 6 (by decide) rfl)))) <| Go1 1 12 (.agg #[Ni c, Ni ((hdT l).pos)]) <| gl_st (Bx [Ni c, Ni ((hdT l).pos)] rfl hH ?_)
 clear hH; intro b4 w5 hH
 refine Go1 1 14 (.iface 94 (Pp b4 0)) <| gl_st (Pn rfl rfl ?_)
 exact ⟨stopF c l, _, rfl, rfl, (hH.sb (slk sln)).fresh.turn⟩
theorem YWrong_ct (g cap : Nat) (A : Option Addr) (l : List Tk) (w : World) (h0 : w.cell? ⟨g, 0, none⟩ = some (.slice A l.length cap)) (hT : Row w.cell? (.slice A l.length cap) 7 l.length (rowC tkC l)) (hl : 0 < l.length) :
    FunP Tryz.prog 104 [.pointer (some ⟨g, 0, none⟩)] w (fun _ _ => False) (PanF (fun er => er = wrongF l) [] w) := by
 refine funP_of_sw Tryz.func104 rfl 14 rfl rfl ?_
 have hH := Hp.start w
 refine sw_seq <| sw_sr <| Go1 3 4 (.pointer (some ⟨g, 0, none⟩)) <| Gq rfl (rd_load (by kernel_rfl) rfl (hH.zin _ _ h0)) ?_
 obtain ⟨p1, hi3, hp2⟩ := hT.idx 0 (by omega) (by decide)
 refine Gq rfl (Ix (e := 131) 7 rfl rfl hi3) <| Go1 1 7 (.pointer (some p1)) <| Gq rfl (rd_load (by kernel_rfl) rfl (hH.zin _ _ (hp2 0 _ (by decide) (rowC_at tkC_len (hd_at hl) 0 (by decide) rfl)))) <| Go1 1 9 (.bool ((((hdT l).kind : Nat) : Int) == (6 : Int))) <| Dn <| If rfl (fun hc1 => ?_) (fun hc1 => ?_)
 have hk := hc1
 have hw : wrongF l = stopF 3 l := if_pos (by omega)
 refine sw_region <| Go1 1 10 (.pointer (some ⟨g, 0, none⟩)) <| gl_st (Sp rfl rfl (YStop_ct g cap 3 A l _ (hH.zin _ _ h0) (hT.mono hH.zin) hl) (fun _ _ h => h.elim) ((fun _ _ h => h.up (mine := []) hH (fun er he => he.trans hw.symm))))
 have hk := hc1
 have hw : wrongF l = stopF 4 l := if_neg (by omega)
 refine Sk <| sw_region <| Go1 1 12 (.pointer (some ⟨g, 0, none⟩)) <| gl_st (Sp rfl rfl (YStop_ct g cap 4 A l _ (hH.zin _ _ h0) (hT.mono hH.zin) hl) (fun _ _ h => h.elim) ((fun _ _ h => h.up (mine := []) hH (fun er he => he.trans hw.symm))))
theorem YMust_ct (g cap deep k : Nat) (A : Option Addr) (l : List Tk) (c : Zone) (w : World) (hc : c.le (off w (blksOf [rdO g A l.length cap deep]))) (hM : Mine w [rdO g A l.length cap deep]) (hT : Row c (.slice A l.length cap) 7 l.length (rowC tkC l)) (hl : 0 < l.length) :
    FunP Tryz.prog 61 [Pp g 0, .int .i64 ((k : Nat) : Int)] w (fun v w' => ∃ A2 c2, v = .agg (tkC (hdT l)).toArray ∧ (hdT l).kind = k ∧ Row c (.slice A2 l.tail.length c2) 7 l.tail.length (rowC tkC l.tail) ∧ Turn w w' [rdO g A l.length cap deep] [rdO g A2 l.tail.length c2 deep]) (PanF (fun er => er = wrongF l ∧ ¬ (hdT l).kind = k) [rdO g A l.length cap deep] w) := by
 obtain ⟨Ax, cx, hx9, hx1, hx2⟩ := hT.form
 cases hx9
 refine funP_of_sw Tryz.func61 rfl 18 rfl rfl ?_
 have hH := (Hp.start_mine hM).zsub hc
 refine sw_sr <| gl_st (Alc [.int .i64 0, .string (bs []), .int .u64 0, .int .u64 0, .int .u64 0, .int .u64 0, .int .i64 0] rfl hH ?_)
 clear hH; intro b1 w2 hH
 refine Dn <| sw_seq <| sw_sr <| Go1 3 7 (Pp g 0) <| Gq rfl (Lk 0 hH rfl rfl rfl) ?_
 obtain ⟨p3, hi5, hp4⟩ := hT.idx 0 (by omega) (by decide)
 refine Gq rfl (Ix (e := 131) 7 rfl rfl hi5) <| Go1 1 10 (.pointer (some p3)) <| Gq rfl (rd_load (by kernel_rfl) rfl (hH.zin _ _ (hp4 0 _ (by decide) (rowC_at tkC_len (hd_at hl) 0 (by decide) rfl)))) <| Go1 2 13 (.bool ((((hdT l).kind : Nat) : Int) != (k : Int))) <| Dn <| If rfl (fun hc1 => ?_) (fun hc1 => ?_)
 have hk : ¬ (hdT l).kind = k := by have := hc1; omega
 refine sw_region <| Go1 1 14 (Pp g 0) <| gl_st (Sp rfl rfl (YWrong_ct g cap A l _ (hH.blk_cell 0 rfl rfl) (hT.mono hH.zin) hl) (fun _ _ h => h.elim) ((fun _ _ h => h.up (mine := []) hH (fun er he => ⟨he, hk⟩))))
 have hk : (hdT l).kind = k := by have := hc1; omega
 refine Sk <| sw_sr <| Go1 1 16 (Pp g 0) ?_
 replace hH : Hp w w2 _ _ ([_] ++ [_]) := hH
 refine gl_st (Sc rfl rfl (YNext_ct g cap deep A l c _ hH.zoff hH.mine hT hl) ?_)
 rintro _ w11 ⟨A8, c9, rfl, hT10, hF12⟩
 replace hH := hH.turns hF12
 replace hH := hH.n2
 refine gl_st (Ka 0 [Ni ((hdT l).kind), .string (bs ((hdT l).text)), .int .u64 (((hdT l).cl.a : Nat) : Int), .int .u64 (((hdT l).cl.b : Nat) : Int), .int .u64 (((hdT l).cl.c : Nat) : Int), .int .u64 (((hdT l).cl.d : Nat) : Int), Ni ((hdT l).pos)] [Ni ((hdT l).kind), .string (bs ((hdT l).text)), .int .u64 (((hdT l).cl.a : Nat) : Int), .int .u64 (((hdT l).cl.b : Nat) : Int), .int .u64 (((hdT l).cl.c : Nat) : Int), .int .u64 (((hdT l).cl.d : Nat) : Int), Ni ((hdT l).pos)] rfl hH rfl rfl ?_)
 clear hH; intro w13 hH
 refine Dn <| sw_ret <| retPC1 rfl (RS.cellA hH 0 (by kernel_rfl) rfl rfl (by kernel_rfl) [Ni ((hdT l).kind), .string (bs ((hdT l).text)), .int .u64 (((hdT l).cl.a : Nat) : Int), .int .u64 (((hdT l).cl.b : Nat) : Int), .int .u64 (((hdT l).cl.c : Nat) : Int), .int .u64 (((hdT l).cl.d : Nat) : Int), Ni ((hdT l).pos)] rfl rfl) ?_
 replace hH := hH.fr2
 replace hH := (hH.sb (slk sln)).n1
 exact ⟨A8, c9, rfl, hk, hT10, hH.turned⟩
theorem YJoin_ct (k : Int) (cap : Nat) (A : Option Addr) (ts : List Tv) (w : World) (hT : Row w.cell? (.slice A ts.length cap) 8 ts.length (rowC tvC ts)) (hl : 0 < ts.length) :
    Fun Tryz.prog 108 [.int .i64 k, .slice A ts.length cap] w fun v w' => v = .agg (tvC (joinT k A cap ts)).toArray ∧ Fresh w w' [] := by
 refine fun_of_sw Tryz.func108 rfl 18 rfl rfl ?_
 have hH := Hp.start w
 obtain ⟨t0, hat⟩ : ∃ t0, ts[0]? = some t0 := ⟨_, List.getElem?_eq_getElem hl⟩
 refine sw_sr <| gl_st (Alc [.int .i64 0, .string (bs []), .int .u64 0, .int .u64 0, .int .u64 0, .int .u64 0, .slice none 0 0, .int .i64 0] rfl hH ?_)
 clear hH; intro b1 w2 hH
 refine Dn <| sw_seq <| sw_sr <| Go1 1 5 (.slice A ts.length cap) <| Gq rfl (Ln (e := 41) rfl) <| Go1 1 7 (.bool (((ts.length : Nat) : Int) == (1 : Int))) <| Dn <| If rfl (fun hc1 => ?_) (fun hc1 => ?_)
 have hk := hc1
 have hj : joinT k A cap ts = t0 := by
   match ts, hat, hk with
   | [x], h, _ => cases h; rfl
 refine sw_sr ?_
 obtain ⟨p3, hi5, hp4⟩ := hT.idx 0 (by omega) (by decide)
 refine Go1 1 8 (.slice A ts.length cap) <| Gq rfl (Ix (e := 41) 8 rfl rfl hi5) <| Gq rfl (rd_loadZA (by kernel_rfl) hH hp4 rfl 0 rfl [.int .i64 t0.kind, .string (bs t0.text), .int .u64 ((t0.cl.a : Nat) : Int), .int .u64 ((t0.cl.b : Nat) : Int), .int .u64 ((t0.cl.c : Nat) : Int), .int .u64 ((t0.cl.d : Nat) : Int), .slice t0.A t0.subs.length t0.cap, .int .i64 t0.pos] (by kernel_rfl) (rowC_all tvC_len hat 0 _ rfl)) <| gl_st (Ka 0 [.int .i64 t0.kind, .string (bs t0.text), .int .u64 ((t0.cl.a : Nat) : Int), .int .u64 ((t0.cl.b : Nat) : Int), .int .u64 ((t0.cl.c : Nat) : Int), .int .u64 ((t0.cl.d : Nat) : Int), .slice t0.A t0.subs.length t0.cap, .int .i64 t0.pos] [.int .i64 t0.kind, .string (bs t0.text), .int .u64 ((t0.cl.a : Nat) : Int), .int .u64 ((t0.cl.b : Nat) : Int), .int .u64 ((t0.cl.c : Nat) : Int), .int .u64 ((t0.cl.d : Nat) : Int), .slice t0.A t0.subs.length t0.cap, .int .i64 t0.pos] rfl hH rfl rfl ?_)
 clear hH; intro w6 hH
 refine Dn <| sw_ret <| thR <| retC1 rfl (RS.cellA hH 0 (by kernel_rfl) rfl rfl (by kernel_rfl) [.int .i64 t0.kind, .string (bs t0.text), .int .u64 ((t0.cl.a : Nat) : Int), .int .u64 ((t0.cl.b : Nat) : Int), .int .u64 ((t0.cl.c : Nat) : Int), .int .u64 ((t0.cl.d : Nat) : Int), .slice t0.A t0.subs.length t0.cap, .int .i64 t0.pos] rfl rfl) ?_
 exact ⟨by rw [hj]; rfl, (hH.sb sln).fresh⟩
 have hk := hc1
 have hj : joinT k A cap ts = .mk k [] Cl.zero A cap ts t0.pos := by
   match ts, hat, hk with
   | [x], _, h => simp at h
   | x :: y :: r, h, _ => cases h; rfl
 refine Sk <| sw_sr ?_
 obtain ⟨p7, hi9, hp8⟩ := hT.idx 0 (by omega) (by decide)
 refine Go3 3 11 (.int .i64 k) 12 (.slice A ts.length cap) 13 (.slice A ts.length cap) <| Gq rfl (Ix (e := 41) 8 rfl rfl hi9) <| Go1 1 15 (.pointer (some (p7.add 7))) <| Gq rfl (rd_load (by kernel_rfl) rfl (hH.zin _ _ (hp8 7 _ (by decide) (rowC_at tvC_len hat 7 (by decide) rfl)))) <| Go1 1 17 (.agg #[.int .i64 k, .string (bs []), .int .u64 0, .int .u64 0, .int .u64 0, .int .u64 0, .slice A ts.length cap, .int .i64 t0.pos]) <| gl_st (Ka 0 [.int .i64 k, .string (bs []), .int .u64 0, .int .u64 0, .int .u64 0, .int .u64 0, .slice A ts.length cap, .int .i64 t0.pos] [.int .i64 k, .string (bs []), .int .u64 0, .int .u64 0, .int .u64 0, .int .u64 0, .slice A ts.length cap, .int .i64 t0.pos] rfl hH rfl rfl ?_)
 clear hH; intro w10 hH
 refine Dn <| sw_ret <| retC1 rfl (RS.cellA hH 0 (by kernel_rfl) rfl rfl (by kernel_rfl) [.int .i64 k, .string (bs []), .int .u64 0, .int .u64 0, .int .u64 0, .int .u64 0, .slice A ts.length cap, .int .i64 t0.pos] rfl rfl) ?_
 exact ⟨by rw [hj]; rfl, (hH.sb sln).fresh⟩
end Go.Proofs.YtllfpnbhjfadiaaGreatDoor
