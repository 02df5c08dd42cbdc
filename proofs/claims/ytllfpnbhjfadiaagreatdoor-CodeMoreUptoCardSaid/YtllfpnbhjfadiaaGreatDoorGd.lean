/- Gd: several texts in one. -/
import Derived.Test.YtllfpnbhjfadiaaGreatDoorGc
import Derived.Test.YtllfpnbhjfadiaaGreatDoorGb
/- Layer 4 (syntax): one part: what the program's function answers. -/
set_option maxRecDepth 100000
set_option maxHeartbeats 2000000
set_option linter.unusedVariables false
set_option linter.unusedSimpArgs false
namespace Go.Proofs.YtllfpnbhjfadiaaGreatDoor
open Go.RowKit Go.SW
theorem pos_i64 {l : List Tk} (h : TL l) : -9223372036854775808 ≤ (((hdT l).pos : Nat) : Int) ∧ (((hdT l).pos : Nat) : Int) ≤ 9223372036854775807 := by
  have := h.hd.2.2
  omega

theorem YOne_ct (k : Nat) (IH : RdC 199 withinF 3 1 k) : OnC (k + 1) := by
 intro g cap deep A l pl c w hk hd hT0 hc hM hT
 have hpos := hT0.pos
 refine funP_of_sw Tryz.func172 rfl 56 rfl rfl ?_
 have hH := (Hp.start_mine hM).zsub hc
 refine sw_sr <| gl_st (Alc [.int .i64 0, .string (bs []), .int .u64 0, .int .u64 0, .int .u64 0, .int .u64 0, .slice none 0 0, .int .i64 0] rfl hH ?_)
 clear hH; intro b1 w2 hH
 refine Go0 1 <| Dn <| sw_sr <| Go1 3 8 (Pp g 0) <| Gq rfl (Lk 0 hH rfl rfl rfl) ?_
 obtain ⟨p3, hi5, hp4⟩ := hT.idx 0 (by omega) (by decide)
 refine Gq rfl (Ix (e := 131) 7 rfl rfl hi5) <| Gq rfl (rd_loadZA (by kernel_rfl) hH hp4 rfl 0 rfl [Ni ((hdT l).kind), .string (bs ((hdT l).text)), .int .u64 (((hdT l).cl.a : Nat) : Int), .int .u64 (((hdT l).cl.b : Nat) : Int), .int .u64 (((hdT l).cl.c : Nat) : Int), .int .u64 (((hdT l).cl.d : Nat) : Int), Ni ((hdT l).pos)] (by kernel_rfl) (rowC_all tkC_len (hd_at hT0.pos) 0 _ rfl)) <| gl_st (Alc [.int .i64 0, .string (bs []), .int .u64 0, .int .u64 0, .int .u64 0, .int .u64 0, .int .i64 0] rfl hH ?_)
 clear hH; intro b6 w7 hH
 refine gl_st (Ka 3 [Ni ((hdT l).kind), .string (bs ((hdT l).text)), .int .u64 (((hdT l).cl.a : Nat) : Int), .int .u64 (((hdT l).cl.b : Nat) : Int), .int .u64 (((hdT l).cl.c : Nat) : Int), .int .u64 (((hdT l).cl.d : Nat) : Int), Ni ((hdT l).pos)] [Ni ((hdT l).kind), .string (bs ((hdT l).text)), .int .u64 (((hdT l).cl.a : Nat) : Int), .int .u64 (((hdT l).cl.b : Nat) : Int), .int .u64 (((hdT l).cl.c : Nat) : Int), .int .u64 (((hdT l).cl.d : Nat) : Int), Ni ((hdT l).pos)] rfl hH rfl rfl ?_)
 clear hH; intro w8 hH
 refine Dn <| sw_sr <| Go1 1 12 (Pp b6 6) <| Gq rfl (Lk 3 hH rfl rfl rfl) <| Go1 1 14 (Pp b6 1) <| Gq rfl (Lk 3 hH rfl rfl rfl) <| Go1 1 16 (Pp b6 2) <| Gq rfl (La 3 [.int .u64 (((hdT l).cl.a : Nat) : Int), .int .u64 (((hdT l).cl.b : Nat) : Int), .int .u64 (((hdT l).cl.c : Nat) : Int), .int .u64 (((hdT l).cl.d : Nat) : Int)] hH rfl rfl) <| Go1 1 18 (.agg #[.int .i64 0, .string (bs ((hdT l).text)), .int .u64 (((hdT l).cl.a : Nat) : Int), .int .u64 (((hdT l).cl.b : Nat) : Int), .int .u64 (((hdT l).cl.c : Nat) : Int), .int .u64 (((hdT l).cl.d : Nat) : Int), .slice none 0 0, Ni ((hdT l).pos)]) <| gl_st (Alc [.int .i64 0, .string (bs []), .int .u64 0, .int .u64 0, .int .u64 0, .int .u64 0, .slice none 0 0, .int .i64 0] rfl hH ?_)
 clear hH; intro b9 w10 hH
 refine gl_st (Ka 4 [.int .i64 0, .string (bs ((hdT l).text)), .int .u64 (((hdT l).cl.a : Nat) : Int), .int .u64 (((hdT l).cl.b : Nat) : Int), .int .u64 (((hdT l).cl.c : Nat) : Int), .int .u64 (((hdT l).cl.d : Nat) : Int), .slice none 0 0, Ni ((hdT l).pos)] [.int .i64 0, .string (bs ((hdT l).text)), .int .u64 (((hdT l).cl.a : Nat) : Int), .int .u64 (((hdT l).cl.b : Nat) : Int), .int .u64 (((hdT l).cl.c : Nat) : Int), .int .u64 (((hdT l).cl.d : Nat) : Int), .slice none 0 0, Ni ((hdT l).pos)] rfl hH rfl rfl ?_)
 clear hH; intro w11 hH
 refine Dn <| sw_seq <| sw_sr <| Go1 1 19 (Pp b6 0) <| Gq rfl (Lk 3 hH rfl rfl rfl) <| Dn <| sw_block <| sw_sr <| Go1 2 22 (.bool ((((hdT l).kind : Nat) : Int) == (1 : Int))) <| Dn <| If rfl (fun hc1 => ?_) (fun hc1 => ?_)
 have hk1 : (hdT l).kind = 1 := by have := hc1; omega
 refine sw_seq <| sw_sr <| Go1 3 26 (Pp g 0) <| Gq rfl (Lk 0 hH rfl rfl rfl) ?_
 obtain ⟨p12, hi14, hp13⟩ := hT.idx 1 (by have := hT0.one (by omega); omega) (by decide)
 refine Gq rfl (Ix (e := 131) 7 rfl rfl hi14) <| Go1 1 29 (.pointer (some p12)) <| Gq rfl (rd_load (by kernel_rfl) rfl (hH.zin _ _ (hp13 0 _ (by decide) (rowC_at tkC_len (hd_at1 (hT0.one (by omega))) 0 (by decide) rfl)))) <| Go1 1 31 (.bool ((((hdT l.tail).kind : Nat) : Int) == (2 : Int))) <| Dn <| If rfl (fun hc2 => ?_) (fun hc2 => ?_)
 have hk2 : (hdT l.tail).kind = 2 := by have := hc2; omega
 refine sw_sr <| Go1 1 32 (.agg #[.int .i64 0, .string (bs []), .int .u64 0, .int .u64 0, .int .u64 0, .int .u64 0, .slice none 0 0, .int .i64 0]) <| gl_st (Ka 2 [.int .i64 0, .string (bs []), .int .u64 0, .int .u64 0, .int .u64 0, .int .u64 0, .slice none 0 0, .int .i64 0] [.int .i64 0, .string (bs []), .int .u64 0, .int .u64 0, .int .u64 0, .int .u64 0, .slice none 0 0, .int .i64 0] rfl hH rfl rfl ?_)
 clear hH; intro w15 hH
 refine Go1 1 3 (.bool false) <| Dn <| sw_ret <| thR <| bkR <| thR <| retPC2 rfl (RS.cellA hH 2 (by kernel_rfl) rfl rfl (by kernel_rfl) [.int .i64 0, .string (bs []), .int .u64 0, .int .u64 0, .int .u64 0, .int .u64 0, .slice none 0 0, .int .i64 0] rfl rfl) (RS.tmp rfl) ?_
 replace hH := (hH.sb (slk (slk sln))).n2
 exact ⟨none, l, A, cap, pl, one_arrow hk1 hk2, rfl, hT0, Nat.le_refl _, Zone.le.refl _, TvsOk.nil, hT, hH.turned⟩
 have hk2 : ¬ (hdT l.tail).kind = 2 := by have := hc2; omega
 refine Sk <| sw_region <| Go1 1 33 (Pp b9 0) <| gl_st (Ks 4 (.int .i64 5) rfl hH rfl rfl ?_)
 clear hH; intro w16 hH
 refine Dd <| bkN <| sw_next <| sw_sr <| Go1 1 53 (Pp g 0) ?_
 replace hH : Hp w w16 _ _ ([_] ++ [_, _, _, _]) := hH
 refine gl_st (Sc rfl rfl (YNext_ct g cap deep A l c _ hH.zoff hH.mine hT hT0.pos) ?_)
 rintro _ w20 ⟨A17, c18, rfl, hT19, hF21⟩
 replace hH := hH.turns hF21
 replace hH := hH.n5
 refine Dn <| sw_sr <| Gq rfl (La 3 [.int .i64 5, .string (bs ((hdT l).text)), .int .u64 (((hdT l).cl.a : Nat) : Int), .int .u64 (((hdT l).cl.b : Nat) : Int), .int .u64 (((hdT l).cl.c : Nat) : Int), .int .u64 (((hdT l).cl.d : Nat) : Int), .slice none 0 0, Ni ((hdT l).pos)] hH rfl rfl) <| gl_st (Ka 1 [.int .i64 5, .string (bs ((hdT l).text)), .int .u64 (((hdT l).cl.a : Nat) : Int), .int .u64 (((hdT l).cl.b : Nat) : Int), .int .u64 (((hdT l).cl.c : Nat) : Int), .int .u64 (((hdT l).cl.d : Nat) : Int), .slice none 0 0, Ni ((hdT l).pos)] [.int .i64 5, .string (bs ((hdT l).text)), .int .u64 (((hdT l).cl.a : Nat) : Int), .int .u64 (((hdT l).cl.b : Nat) : Int), .int .u64 (((hdT l).cl.c : Nat) : Int), .int .u64 (((hdT l).cl.d : Nat) : Int), .slice none 0 0, Ni ((hdT l).pos)] rfl hH rfl rfl ?_)
 clear hH; intro w22 hH
 refine glo 1 [(2, Pp b1 0), (3, .bool true)] <| Dn <| sw_ret <| retPC2 rfl (RS.cellA hH 1 (by kernel_rfl) rfl rfl (by kernel_rfl) [.int .i64 5, .string (bs ((hdT l).text)), .int .u64 (((hdT l).cl.a : Nat) : Int), .int .u64 (((hdT l).cl.b : Nat) : Int), .int .u64 (((hdT l).cl.c : Nat) : Int), .int .u64 (((hdT l).cl.d : Nat) : Int), .slice none 0 0, Ni ((hdT l).pos)] rfl rfl) (RS.tmp rfl) ?_
 replace hH := hH.fr5
 replace hH := (hH.sb (slk (slk sln))).n2
 have htl : l.tail.length = l.length - 1 := List.length_tail
 exact ⟨some (Tv.leaf 5 (hdT l).text (hdT l).cl (hdT l).pos), l.tail, A17, c18, pl, one_name hk1 hk2, rfl, hT0.tail (by omega), (by show l.tail.length + 1 ≤ l.length; omega), Zone.le.refl _, TvsOk.one (TvOk.leaf hT0.hd.2.1 hT0.hd.1 (by decide) (pos_i64 hT0)), hT19, hH.turned⟩
 have hk1 : ¬ (hdT l).kind = 1 := by have := hc1; omega
 refine sw_sr <| Go1 2 34 (.bool ((((hdT l).kind : Nat) : Int) == (3 : Int))) <| Dn <| If rfl (fun hc3 => ?_) (fun hc3 => ?_)
 have hk3 : (hdT l).kind = 3 := by have := hc3; omega
 refine sw_region <| Go1 1 36 (Pp b9 0) <| gl_st (Ks 4 (.int .i64 2) rfl hH rfl rfl ?_)
 clear hH; intro w23 hH
 refine Dd <| bkN <| sw_next <| sw_sr <| Go1 1 53 (Pp g 0) ?_
 replace hH : Hp w w23 _ _ ([_] ++ [_, _, _, _]) := hH
 refine gl_st (Sc rfl rfl (YNext_ct g cap deep A l c _ hH.zoff hH.mine hT hT0.pos) ?_)
 rintro _ w27 ⟨A24, c25, rfl, hT26, hF28⟩
 replace hH := hH.turns hF28
 replace hH := hH.n5
 refine Dn <| sw_sr <| Gq rfl (La 3 [.int .i64 2, .string (bs ((hdT l).text)), .int .u64 (((hdT l).cl.a : Nat) : Int), .int .u64 (((hdT l).cl.b : Nat) : Int), .int .u64 (((hdT l).cl.c : Nat) : Int), .int .u64 (((hdT l).cl.d : Nat) : Int), .slice none 0 0, Ni ((hdT l).pos)] hH rfl rfl) <| gl_st (Ka 1 [.int .i64 2, .string (bs ((hdT l).text)), .int .u64 (((hdT l).cl.a : Nat) : Int), .int .u64 (((hdT l).cl.b : Nat) : Int), .int .u64 (((hdT l).cl.c : Nat) : Int), .int .u64 (((hdT l).cl.d : Nat) : Int), .slice none 0 0, Ni ((hdT l).pos)] [.int .i64 2, .string (bs ((hdT l).text)), .int .u64 (((hdT l).cl.a : Nat) : Int), .int .u64 (((hdT l).cl.b : Nat) : Int), .int .u64 (((hdT l).cl.c : Nat) : Int), .int .u64 (((hdT l).cl.d : Nat) : Int), .slice none 0 0, Ni ((hdT l).pos)] rfl hH rfl rfl ?_)
 clear hH; intro w29 hH
 refine Go1 1 3 (.bool true) <| Dn <| sw_ret <| retPC2 rfl (RS.cellA hH 1 (by kernel_rfl) rfl rfl (by kernel_rfl) [.int .i64 2, .string (bs ((hdT l).text)), .int .u64 (((hdT l).cl.a : Nat) : Int), .int .u64 (((hdT l).cl.b : Nat) : Int), .int .u64 (((hdT l).cl.c : Nat) : Int), .int .u64 (((hdT l).cl.d : Nat) : Int), .slice none 0 0, Ni ((hdT l).pos)] rfl rfl) (RS.tmp rfl) ?_
 replace hH := hH.fr5
 replace hH := (hH.sb (slk (slk sln))).n2
 have htl : l.tail.length = l.length - 1 := List.length_tail
 exact ⟨some (Tv.leaf 2 (hdT l).text (hdT l).cl (hdT l).pos), l.tail, A24, c25, pl, one_lit hk3, rfl, hT0.tail (by omega), (by show l.tail.length + 1 ≤ l.length; omega), Zone.le.refl _, TvsOk.one (TvOk.leaf hT0.hd.2.1 hT0.hd.1 (by decide) (pos_i64 hT0)), hT26, hH.turned⟩
 have hk3 : ¬ (hdT l).kind = 3 := by have := hc3; omega
 refine sw_sr <| Go1 2 37 (.bool ((((hdT l).kind : Nat) : Int) == (4 : Int))) <| Dn <| If rfl (fun hc4 => ?_) (fun hc4 => ?_)
 have hk4 : (hdT l).kind = 4 := by have := hc4; omega
 refine sw_region <| Go1 1 39 (Pp b9 0) <| gl_st (Ks 4 (.int .i64 3) rfl hH rfl rfl ?_)
 clear hH; intro w30 hH
 refine Dd <| bkN <| sw_next <| sw_sr <| Go1 1 53 (Pp g 0) ?_
 replace hH : Hp w w30 _ _ ([_] ++ [_, _, _, _]) := hH
 refine gl_st (Sc rfl rfl (YNext_ct g cap deep A l c _ hH.zoff hH.mine hT hT0.pos) ?_)
 rintro _ w34 ⟨A31, c32, rfl, hT33, hF35⟩
 replace hH := hH.turns hF35
 replace hH := hH.n5
 refine Dn <| sw_sr <| Gq rfl (La 3 [.int .i64 3, .string (bs ((hdT l).text)), .int .u64 (((hdT l).cl.a : Nat) : Int), .int .u64 (((hdT l).cl.b : Nat) : Int), .int .u64 (((hdT l).cl.c : Nat) : Int), .int .u64 (((hdT l).cl.d : Nat) : Int), .slice none 0 0, Ni ((hdT l).pos)] hH rfl rfl) <| gl_st (Ka 1 [.int .i64 3, .string (bs ((hdT l).text)), .int .u64 (((hdT l).cl.a : Nat) : Int), .int .u64 (((hdT l).cl.b : Nat) : Int), .int .u64 (((hdT l).cl.c : Nat) : Int), .int .u64 (((hdT l).cl.d : Nat) : Int), .slice none 0 0, Ni ((hdT l).pos)] [.int .i64 3, .string (bs ((hdT l).text)), .int .u64 (((hdT l).cl.a : Nat) : Int), .int .u64 (((hdT l).cl.b : Nat) : Int), .int .u64 (((hdT l).cl.c : Nat) : Int), .int .u64 (((hdT l).cl.d : Nat) : Int), .slice none 0 0, Ni ((hdT l).pos)] rfl hH rfl rfl ?_)
 clear hH; intro w36 hH
 refine Go1 1 3 (.bool true) <| Dn <| sw_ret <| retPC2 rfl (RS.cellA hH 1 (by kernel_rfl) rfl rfl (by kernel_rfl) [.int .i64 3, .string (bs ((hdT l).text)), .int .u64 (((hdT l).cl.a : Nat) : Int), .int .u64 (((hdT l).cl.b : Nat) : Int), .int .u64 (((hdT l).cl.c : Nat) : Int), .int .u64 (((hdT l).cl.d : Nat) : Int), .slice none 0 0, Ni ((hdT l).pos)] rfl rfl) (RS.tmp rfl) ?_
 replace hH := hH.fr5
 replace hH := (hH.sb (slk (slk sln))).n2
 have htl : l.tail.length = l.length - 1 := List.length_tail
 exact ⟨some (Tv.leaf 3 (hdT l).text (hdT l).cl (hdT l).pos), l.tail, A31, c32, pl, one_set hk4, rfl, hT0.tail (by omega), (by show l.tail.length + 1 ≤ l.length; omega), Zone.le.refl _, TvsOk.one (TvOk.leaf hT0.hd.2.1 hT0.hd.1 (by decide) (pos_i64 hT0)), hT33, hH.turned⟩
 have hk4 : ¬ (hdT l).kind = 4 := by have := hc4; omega
 refine sw_sr <| Go1 2 40 (.bool ((((hdT l).kind : Nat) : Int) == (5 : Int))) <| Dn <| If rfl (fun hc5 => ?_) (fun hc5 => ?_)
 have hk5 : (hdT l).kind = 5 := by have := hc5; omega
 refine sw_sr <| Go1 1 42 (Pp b9 1) <| gl_st (Ks 4 (.string (bs [])) rfl hH rfl rfl ?_)
 clear hH; intro w37 hH
 refine Dn <| sw_sr <| Go1 1 43 (Pp b6 1) <| Gq rfl (Lk 3 hH rfl rfl rfl) <| Dn <| sw_block <| sw_sr <| Gq rfl (rd_seql (by kernel_rfl) rfl rfl) <| Go1 1 46 (.bool (((hdT l).text) == [46])) <| Dn <| If rfl (fun hc6 => ?_) (fun hc6 => ?_)
 have ht1 : (hdT l).text = [46] := hc6
 refine sw_region <| Go1 1 48 (Pp b9 0) <| gl_st (Ks 4 (.int .i64 4) rfl hH rfl rfl ?_)
 clear hH; intro w38 hH
 refine Dd <| bkN <| bkN <| sw_next <| sw_sr <| Go1 1 53 (Pp g 0) ?_
 replace hH : Hp w w38 _ _ ([_] ++ [_, _, _, _]) := hH
 refine gl_st (Sc rfl rfl (YNext_ct g cap deep A l c _ hH.zoff hH.mine hT hT0.pos) ?_)
 rintro _ w42 ⟨A39, c40, rfl, hT41, hF43⟩
 replace hH := hH.turns hF43
 replace hH := hH.n5
 refine Dn <| sw_sr <| Gq rfl (La 3 [.int .i64 4, .string (bs []), .int .u64 (((hdT l).cl.a : Nat) : Int), .int .u64 (((hdT l).cl.b : Nat) : Int), .int .u64 (((hdT l).cl.c : Nat) : Int), .int .u64 (((hdT l).cl.d : Nat) : Int), .slice none 0 0, Ni ((hdT l).pos)] hH rfl rfl) <| gl_st (Ka 1 [.int .i64 4, .string (bs []), .int .u64 (((hdT l).cl.a : Nat) : Int), .int .u64 (((hdT l).cl.b : Nat) : Int), .int .u64 (((hdT l).cl.c : Nat) : Int), .int .u64 (((hdT l).cl.d : Nat) : Int), .slice none 0 0, Ni ((hdT l).pos)] [.int .i64 4, .string (bs []), .int .u64 (((hdT l).cl.a : Nat) : Int), .int .u64 (((hdT l).cl.b : Nat) : Int), .int .u64 (((hdT l).cl.c : Nat) : Int), .int .u64 (((hdT l).cl.d : Nat) : Int), .slice none 0 0, Ni ((hdT l).pos)] rfl hH rfl rfl ?_)
 clear hH; intro w44 hH
 refine glo 1 [(2, Pp b1 0), (3, .bool true)] <| Dn <| sw_ret <| retPC2 rfl (RS.cellA hH 1 (by kernel_rfl) rfl rfl (by kernel_rfl) [.int .i64 4, .string (bs []), .int .u64 (((hdT l).cl.a : Nat) : Int), .int .u64 (((hdT l).cl.b : Nat) : Int), .int .u64 (((hdT l).cl.c : Nat) : Int), .int .u64 (((hdT l).cl.d : Nat) : Int), .slice none 0 0, Ni ((hdT l).pos)] rfl rfl) (RS.tmp rfl) ?_
 replace hH := hH.fr5
 replace hH := (hH.sb (slk (slk sln))).n2
 have htl : l.tail.length = l.length - 1 := List.length_tail
 exact ⟨some (Tv.leaf 4 [] (hdT l).cl (hdT l).pos), l.tail, A39, c40, pl, one_any hk5 ht1, rfl, hT0.tail (by omega), (by show l.tail.length + 1 ≤ l.length; omega), Zone.le.refl _, TvsOk.one (TvOk.leaf hT0.hd.2.1 (Nat.zero_le _) (by decide) (pos_i64 hT0)), hT41, hH.turned⟩
 have ht1 : ¬ (hdT l).text = [46] := hc6
 refine sw_sr <| Gq rfl (rd_seql (by kernel_rfl) rfl rfl) <| Go1 1 49 (.bool (((hdT l).text) == [40])) <| Dn <| If rfl (fun hc7 => ?_) (fun hc7 => ?_)
 have ht2 : (hdT l).text = [40] := hc7
 refine sw_sr <| glo 1 [(2, Pp b1 0), (51, Pp g 0)] ?_
 replace hH : Hp w w37 _ _ ([_, _] ++ [_, _, _]) := hH
 refine gl_st (Sp rfl rfl (IH g cap deep A l pl c _ (by omega) hd hT0 (fun _ => by omega) hH.zoff hH.mine hT) ?_ ((fun _ _ h => h.up hH (fun er he => one_err hk5 ht2 he))))
 rintro _ w56 ⟨t45, l46, A47, c48, pl49, hR50, rfl, hTL51, hle52, hpz53, htk54, hT55, hF57⟩
 replace hH := hH.turns hF57
 replace hH := hH.n5
 refine gl_st (Ka 0 [.int .i64 t45.kind, .string (bs t45.text), .int .u64 ((t45.cl.a : Nat) : Int), .int .u64 ((t45.cl.b : Nat) : Int), .int .u64 ((t45.cl.c : Nat) : Int), .int .u64 ((t45.cl.d : Nat) : Int), .slice t45.A t45.subs.length t45.cap, .int .i64 t45.pos] [.int .i64 t45.kind, .string (bs t45.text), .int .u64 ((t45.cl.a : Nat) : Int), .int .u64 ((t45.cl.b : Nat) : Int), .int .u64 ((t45.cl.c : Nat) : Int), .int .u64 ((t45.cl.d : Nat) : Int), .slice t45.A t45.subs.length t45.cap, .int .i64 t45.pos] rfl hH rfl rfl ?_)
 clear hH; intro w58 hH
 refine Go1 1 3 (.bool true) <| Dn <| sw_ret <| bkR <| bkR <| thR <| retPC2 rfl (RS.cellA hH 0 (by kernel_rfl) rfl rfl (by kernel_rfl) [.int .i64 t45.kind, .string (bs t45.text), .int .u64 ((t45.cl.a : Nat) : Int), .int .u64 ((t45.cl.b : Nat) : Int), .int .u64 ((t45.cl.c : Nat) : Int), .int .u64 ((t45.cl.d : Nat) : Int), .slice t45.A t45.subs.length t45.cap, .int .i64 t45.pos] rfl rfl) (RS.tmp rfl) ?_
 replace hH := hH.fr5.fr5
 replace hH := (hH.sb (slk (slk sln))).n2
 exact ⟨some t45, l46, A47, c48, pl49, one_within hk5 ht2 hR50, rfl, hTL51, (by show l46.length + 1 ≤ l.length; omega), hpz53, TvsOk.one htk54, hT55, hH.turned⟩
 have ht2 : ¬ (hdT l).text = [40] := hc7
 refine sw_sr <| glo 1 [(2, Pp b1 0), (45, .agg #[.int .i64 0, .string (bs []), .int .u64 0, .int .u64 0, .int .u64 0, .int .u64 0, .slice none 0 0, .int .i64 0])] <| gl_st (Ka 2 [.int .i64 0, .string (bs []), .int .u64 0, .int .u64 0, .int .u64 0, .int .u64 0, .slice none 0 0, .int .i64 0] [.int .i64 0, .string (bs []), .int .u64 0, .int .u64 0, .int .u64 0, .int .u64 0, .slice none 0 0, .int .i64 0] rfl hH rfl rfl ?_)
 clear hH; intro w59 hH
 refine Go1 1 3 (.bool false) <| Dn <| sw_ret <| bkR <| bkR <| thR <| retPC2 rfl (RS.cellA hH 2 (by kernel_rfl) rfl rfl (by kernel_rfl) [.int .i64 0, .string (bs []), .int .u64 0, .int .u64 0, .int .u64 0, .int .u64 0, .slice none 0 0, .int .i64 0] rfl rfl) (RS.tmp rfl) ?_
 replace hH := (hH.sb (slk (slk sln))).n2
 exact ⟨none, l, A, cap, pl, one_sign hk5 ht1 ht2, rfl, hT0, Nat.le_refl _, Zone.le.refl _, TvsOk.nil, hT, hH.turned⟩
 have hk5 : ¬ (hdT l).kind = 5 := by have := hc5; omega
 refine sw_sr <| Go1 1 21 (.agg #[.int .i64 0, .string (bs []), .int .u64 0, .int .u64 0, .int .u64 0, .int .u64 0, .slice none 0 0, .int .i64 0]) <| gl_st (Ka 2 [.int .i64 0, .string (bs []), .int .u64 0, .int .u64 0, .int .u64 0, .int .u64 0, .slice none 0 0, .int .i64 0] [.int .i64 0, .string (bs []), .int .u64 0, .int .u64 0, .int .u64 0, .int .u64 0, .slice none 0 0, .int .i64 0] rfl hH rfl rfl ?_)
 clear hH; intro w60 hH
 refine Go1 1 3 (.bool false) <| Dn <| sw_ret <| bkR <| thR <| retPC2 rfl (RS.cellA hH 2 (by kernel_rfl) rfl rfl (by kernel_rfl) [.int .i64 0, .string (bs []), .int .u64 0, .int .u64 0, .int .u64 0, .int .u64 0, .slice none 0 0, .int .i64 0] rfl rfl) (RS.tmp rfl) ?_
 replace hH := (hH.sb (slk (slk sln))).n2
 exact ⟨none, l, A, cap, pl, one_none hk1 hk3 hk4 hk5, rfl, hT0, Nat.le_refl _, Zone.le.refl _, TvsOk.nil, hT, hH.turned⟩
theorem YWithin_ct (k : Nat) (IH : RdC 62 choiceF 8 0 k) : RdC 199 withinF 3 1 (k + 1) := by
 intro g cap deep A l pl c w hk hd hT0 hd1 hc hM hT
 have hpos := hT0.pos
 have h6 := hd1 rfl
 have htl : l.tail.length = l.length - 1 := List.length_tail
 refine funP_of_sw Tryz.func199 rfl 37 rfl rfl ?_
 have hH := (Hp.start_mine hM).zsub hc
 refine sw_sr <| gl_st (Alc [.int .i64 0, .string (bs []), .int .u64 0, .int .u64 0, .int .u64 0, .int .u64 0, .slice none 0 0, .int .i64 0] rfl hH ?_)
 clear hH; intro b1 w2 hH
 refine Dn <| sw_seq <| sw_sr <| Go1 3 6 (Pp g 1) <| Gq rfl (Lk 0 hH rfl rfl rfl) <| Go1 1 8 (.bool ((deep : Int) == (24 : Int))) <| Dn <| If rfl (fun hc1 => ?_) (fun hc1 => ?_)
 have hdd : deep = 24 := by have := hc1; omega
 refine sw_region <| Go1 1 9 (Pp g 0) <| gl_st (Sp rfl rfl (YStop_ct g cap 2 A l _ (hH.blk_cell 0 rfl rfl) (hT.mono hH.zin) hT0.pos) (fun _ _ h => h.elim) ((fun _ _ h => h.up (mine := []) hH (fun er he => by subst hdd; rw [he]; exact within_deep))))
 have hdd : ¬ deep = 24 := by have := hc1; omega
 refine Sk <| sw_sr <| Go2 3 11 (Pp g 0) 13 (Pp g 1) <| Gq rfl (Lk 0 hH rfl rfl rfl) <| Gw0 1 15 ((deep : Int) + 1) ((deep + 1 : Nat) : Int) <| Go1 2 17 (Pp g 1) <| gl_st (Ks 0 (Ni (deep + 1)) rfl hH rfl rfl ?_)
 clear hH; intro w5 hH
 refine Dn <| sw_sr <| Go1 1 18 (Pp g 0) ?_
 replace hH : Hp w w5 _ _ ([_] ++ [_, _]) := hH
 refine gl_st (Sc rfl rfl (YNext_ct g cap (deep + 1) A l c _ hH.zoff hH.mine hT hT0.pos) ?_)
 rintro _ w9 ⟨A6, c7, rfl, hT8, hF10⟩
 replace hH := hH.turns hF10
 replace hH := hH.n3
 refine Dn <| sw_sr <| Go1 1 20 (Pp g 0) ?_
 replace hH : Hp w w9 _ _ ([_, _] ++ [_]) := hH.fr3
 refine gl_st (Sp rfl rfl (IH g c7 (deep + 1) A6 l.tail pl c _ (by omega) (by omega) (hT0.tail h6) (fun h => by cases h) hH.zoff hH.mine hT8) ?_ ((fun _ _ h => h.up hH (fun er he => within_err hdd he))))
 rintro _ w22 ⟨t11, l12, A13, c14, pl15, hR16, rfl, hTL17, hle18, hpz19, htk20, hT21, hF23⟩
 replace hH := hH.turns hF23
 replace hH := hH.n3
 refine gl_st (Alc [.int .i64 0, .string (bs []), .int .u64 0, .int .u64 0, .int .u64 0, .int .u64 0, .slice none 0 0, .int .i64 0] rfl hH ?_)
 clear hH; intro b24 w25 hH
 refine gl_st (Ka 3 [.int .i64 t11.kind, .string (bs t11.text), .int .u64 ((t11.cl.a : Nat) : Int), .int .u64 ((t11.cl.b : Nat) : Int), .int .u64 ((t11.cl.c : Nat) : Int), .int .u64 ((t11.cl.d : Nat) : Int), .slice t11.A t11.subs.length t11.cap, .int .i64 t11.pos] [.int .i64 t11.kind, .string (bs t11.text), .int .u64 ((t11.cl.a : Nat) : Int), .int .u64 ((t11.cl.b : Nat) : Int), .int .u64 ((t11.cl.c : Nat) : Int), .int .u64 ((t11.cl.d : Nat) : Int), .slice t11.A t11.subs.length t11.cap, .int .i64 t11.pos] rfl hH rfl rfl ?_)
 clear hH; intro w26 hH
 refine Dn <| sw_seq <| sw_sr <| Go1 1 22 (Pp g 0) <| gl_st (Sc rfl rfl (YSign_ct g c14 A13 l12 _ (hH.blk_cell 1 rfl rfl) (hT21.mono hH.zin) hTL17.pos) ?_)
 rintro _ w27 ⟨rfl, hF28⟩
 replace hH := hH.call hF28
 refine Gq rfl (rd_sneq (by kernel_rfl) rfl rfl) <| Dn <| If rfl (fun hc2 => ?_) (fun hc2 => ?_)
 have hs : ¬ sgF4 l12 = [41] := hc2
 refine sw_region <| Go1 1 25 (Pp g 0) <| gl_st (Sp rfl rfl (YWrong_ct g c14 A13 l12 _ (hH.blk_cell 1 rfl rfl) (hT21.mono hH.zin) hTL17.pos) (fun _ _ h => h.elim) ((fun _ _ h => h.up (mine := []) hH (fun er he => by rw [he]; exact within_wrong hdd hR16 hs))))
 have hs : sgF4 l12 = [41] := hc2
 refine Sk ?_
 have ht2 : l12.tail.length = l12.length - 1 := List.length_tail
 refine sw_sr <| Go1 1 27 (Pp g 0) ?_
 replace hH : Hp w w27 _ _ ([_] ++ [_, _, _]) := hH.fr2
 refine gl_st (Sc rfl rfl (YNext_ct g c14 (deep + 1) A13 l12 c _ hH.zoff hH.mine hT21 hTL17.pos) ?_)
 rintro _ w34 ⟨A31, c32, rfl, hT33, hF35⟩
 replace hH := hH.turns hF35
 replace hH := hH.n4
 refine Dn <| sw_sr <| Go2 3 29 (Pp g 0) 31 (Pp g 1) <| Gq rfl (Lk 3 hH rfl rfl rfl) <| Gw0 1 33 (((deep + 1 : Nat) : Int) - 1) (deep : Int) <| Go1 2 35 (Pp g 1) <| gl_st (Ks 3 (Ni deep) rfl hH rfl rfl ?_)
 clear hH; intro w36 hH
 refine Dn <| sw_sr <| Gq rfl (La 2 [.int .i64 t11.kind, .string (bs t11.text), .int .u64 ((t11.cl.a : Nat) : Int), .int .u64 ((t11.cl.b : Nat) : Int), .int .u64 ((t11.cl.c : Nat) : Int), .int .u64 ((t11.cl.d : Nat) : Int), .slice t11.A t11.subs.length t11.cap, .int .i64 t11.pos] hH rfl rfl) <| gl_st (Ka 0 [.int .i64 t11.kind, .string (bs t11.text), .int .u64 ((t11.cl.a : Nat) : Int), .int .u64 ((t11.cl.b : Nat) : Int), .int .u64 ((t11.cl.c : Nat) : Int), .int .u64 ((t11.cl.d : Nat) : Int), .slice t11.A t11.subs.length t11.cap, .int .i64 t11.pos] [.int .i64 t11.kind, .string (bs t11.text), .int .u64 ((t11.cl.a : Nat) : Int), .int .u64 ((t11.cl.b : Nat) : Int), .int .u64 ((t11.cl.c : Nat) : Int), .int .u64 ((t11.cl.d : Nat) : Int), .slice t11.A t11.subs.length t11.cap, .int .i64 t11.pos] rfl hH rfl rfl ?_)
 clear hH; intro w37 hH
 refine Dn <| sw_ret <| retPC1 rfl (RS.cellA hH 0 (by kernel_rfl) rfl rfl (by kernel_rfl) [.int .i64 t11.kind, .string (bs t11.text), .int .u64 ((t11.cl.a : Nat) : Int), .int .u64 ((t11.cl.b : Nat) : Int), .int .u64 ((t11.cl.c : Nat) : Int), .int .u64 ((t11.cl.d : Nat) : Int), .slice t11.A t11.subs.length t11.cap, .int .i64 t11.pos] rfl rfl) ?_
 replace hH := hH.fr2.fr4
 replace hH := (hH.sb (slk (slk sln))).n2
 exact ⟨t11, l12.tail, A31, c32, pl15, within_ok hdd hR16 hs, rfl, (hTL17.tail (by have := sg_kind hs; omega)), (by show l12.tail.length ≤ l.length - 1; omega), hpz19, htk20, hT33, hH.turned⟩
theorem YPart_ct (k : Nat) (IH : OnC k) : PaC (k + 1) := by
 intro g cap deep A l pl b x ts c w hk hd hT0 hts hc hM hT
 have hpos := hT0.pos
 refine funP_of_sw Tryz.func142 rfl 75 rfl rfl ?_
 have hH := (Hp.start_mine hM).zsub hc
 obtain ⟨A1, c2, rfl, hl3, hm4⟩ := hH.row_form 3 rfl
 refine sw_sr <| Go0 1 <| Dn <| sw_sr <| Go1 3 12 (Pp g 0) <| Gq rfl (Lk 0 hH rfl rfl rfl) ?_
 obtain ⟨p5, hi7, hp6⟩ := hT.idx 0 (by omega) (by decide)
 refine Gq rfl (Ix (e := 131) 7 rfl rfl hi7) <| Gq rfl (rd_loadZA (by kernel_rfl) hH hp6 rfl 0 rfl [Ni ((hdT l).kind), .string (bs ((hdT l).text)), .int .u64 (((hdT l).cl.a : Nat) : Int), .int .u64 (((hdT l).cl.b : Nat) : Int), .int .u64 (((hdT l).cl.c : Nat) : Int), .int .u64 (((hdT l).cl.d : Nat) : Int), Ni ((hdT l).pos)] (by kernel_rfl) (rowC_all tkC_len (hd_at hT0.pos) 0 _ rfl)) <| gl_st (Alc [.int .i64 0, .string (bs []), .int .u64 0, .int .u64 0, .int .u64 0, .int .u64 0, .int .i64 0] rfl hH ?_)
 clear hH; intro b8 w9 hH
 refine gl_st (Ka 4 [Ni ((hdT l).kind), .string (bs ((hdT l).text)), .int .u64 (((hdT l).cl.a : Nat) : Int), .int .u64 (((hdT l).cl.b : Nat) : Int), .int .u64 (((hdT l).cl.c : Nat) : Int), .int .u64 (((hdT l).cl.d : Nat) : Int), Ni ((hdT l).pos)] [Ni ((hdT l).kind), .string (bs ((hdT l).text)), .int .u64 (((hdT l).cl.a : Nat) : Int), .int .u64 (((hdT l).cl.b : Nat) : Int), .int .u64 (((hdT l).cl.c : Nat) : Int), .int .u64 (((hdT l).cl.d : Nat) : Int), Ni ((hdT l).pos)] rfl hH rfl rfl ?_)
 clear hH; intro w10 hH
 refine Go1 1 6 (.int .i64 0) <| Dn <| Cu (γ := Int) hH (fun kd => [(0, Pp g 0), (1, Pp b 0), (5, Pp b8 0), (6, .int .i64 kd)]) (fun kd w_ H_ => (kdF l = kd) ∧ (kd = 0 ∨ kd = 11 ∨ kd = 12) ∧ H_ [.blk g 129 [.slice A l.length cap, Ni deep], plO pl, .blk b 39 [.slice A1 ts.length c2], .row (.slice A1 ts.length c2) 41 8 ts.length (rowC tvC ts), .blk b8 131 [Ni ((hdT l).kind), .string (bs ((hdT l).text)), .int .u64 (((hdT l).cl.a : Nat) : Int), .int .u64 (((hdT l).cl.b : Nat) : Int), .int .u64 (((hdT l).cl.c : Nat) : Int), .int .u64 (((hdT l).cl.d : Nat) : Int), Ni ((hdT l).pos)]]) ?_ ?_
 ·
  refine sw_sr <| Go1 1 16 (Pp g 0) <| gl_st (Sc rfl rfl (YSign_ct g cap A l _ (hH.blk_cell 0 rfl rfl) (hT.mono hH.zin) hT0.pos) ?_)
  rintro _ w11 ⟨rfl, hF12⟩
  replace hH := hH.call hF12
  refine Dn <| sw_block <| sw_sr <| Gq rfl (rd_seql (by kernel_rfl) rfl rfl) <| Go1 1 18 (.bool ((sgF4 l) == [38])) <| Dn <| If rfl (fun hc1 => ?_) (fun hc1 => ?_)
  have hs1 : sgF4 l = [38] := hc1
  refine sw_region <| Go1 1 6 (.int .i64 11) <| Dd <| bkN <| Ce ((11 : Int)) ?_
  exact ⟨if_pos hs1, by decide, hH⟩
  have hs1 : ¬ sgF4 l = [38] := hc1
  refine sw_sr <| Gq rfl (rd_seql (by kernel_rfl) rfl rfl) <| Go1 1 20 (.bool ((sgF4 l) == [33])) <| Dn <| If rfl (fun hc2 => ?_) (fun hc2 => ?_)
  have hs2 : sgF4 l = [33] := hc2
  refine sw_region <| Go1 1 6 (.int .i64 12) <| Dd <| bkN <| Ce ((12 : Int)) ?_
  exact ⟨(if_neg hs1).trans (if_pos hs2), by decide, hH⟩
  have hs2 : ¬ sgF4 l = [33] := hc2
  refine sw_skip <| bkN <| Ce ((0 : Int)) ?_
  exact ⟨(if_neg hs1).trans (if_neg hs2), by decide, hH⟩
 clear hH
 rintro kd w13 ⟨hkd, hk3, hH⟩
 refine swk [(0, Pp g 0), (1, Pp b 0), (5, Pp b8 0), (6, .int .i64 kd)] <| Cu (γ := Option Addr × Nat) hH (fun (Ar, cr) => [(0, Pp g 0), (1, Pp b 0), (5, Pp b8 0), (6, .int .i64 kd)]) (fun (Ar, cr) w_ H_ => (Row c (.slice Ar (restF l).length cr) 7 (restF l).length (rowC tkC (restF l))) ∧ (TL (restF l)) ∧ ((restF l).length ≤ l.length) ∧ H_ [.blk g 129 [.slice Ar ((restF l).length) cr, Ni deep], plO pl, .blk b8 131 [Ni ((hdT l).kind), .string (bs ((hdT l).text)), .int .u64 (((hdT l).cl.a : Nat) : Int), .int .u64 (((hdT l).cl.b : Nat) : Int), .int .u64 (((hdT l).cl.c : Nat) : Int), .int .u64 (((hdT l).cl.d : Nat) : Int), Ni ((hdT l).pos)], .blk b 39 [.slice A1 ts.length c2], .row (.slice A1 ts.length c2) 41 8 ts.length (rowC tvC ts)]) ?_ ?_
 ·
  refine sw_sr <| Go1 2 23 (.bool ((kd : Int) != (0 : Int))) <| Dn <| If rfl (fun hc3 => ?_) (fun hc3 => ?_)
  have hk0 : ¬ kd = 0 := hc3
  have h6 : (hdT l).kind ≠ 6 := by have := kd_kind (l := l) (by omega); omega
  refine sw_region <| Go1 1 24 (Pp g 0) ?_
  replace hH : Hp w w13 _ _ ([_] ++ [_, _, _, _]) := hH
  refine gl_st (Sc rfl rfl (YNext_ct g cap deep A l c _ hH.zoff hH.mine hT hT0.pos) ?_)
  rintro _ w17 ⟨A14, c15, rfl, hT16, hF18⟩
  replace hH := hH.turns hF18
  replace hH := hH.n5
  refine Dd <| Ce (A14, c15) ?_
  replace hH := hH.fr3.fr3.fr4.fr4.fr5
  replace hH := (hH.sb (slk (slk (slk (slk (slk sln)))))).n5
  have hr : restF l = l.tail := if_neg (by rw [hkd]; exact hk0)
  rw [hr]
  exact ⟨hT16, hT0.tail h6, (by rw [List.length_tail]; omega), hH⟩
  have hk0 : kd = 0 := hc3
  refine sw_skip <| Ce (A, cap) ?_
  replace hH := hH.fr4.fr4.fr5.fr5.fr5
  replace hH := (hH.sb (slk (slk (slk (slk (slk sln)))))).n5
  have hr : restF l = l := if_pos (by rw [hkd]; exact hk0)
  rw [hr]
  exact ⟨hT, hT0, Nat.le_refl _, hH⟩
 clear hH
 rintro ⟨Ar, cr⟩ w19 ⟨hTr, hTq, hle2, hH⟩
 refine swk [(0, Pp g 0), (1, Pp b 0), (5, Pp b8 0), (6, .int .i64 kd)] <| sw_sr <| Go1 1 27 (Pp g 0) ?_
 replace hH : Hp w w19 _ _ ([_, _] ++ [_, _, _]) := hH
 refine gl_st (Sp rfl rfl (IH g cr deep Ar (restF l) pl c _ (by omega) hd hTq hH.zoff hH.mine hTr) ?_ ((fun _ _ h => h.up hH (fun er he => part_err he))))
 rintro _ w31 ⟨o20, l21, A22, c23, pl24, hR25, rfl, hTL26, hle27, hpz28, hok29, hT30, hF32⟩
 replace hH := hH.turns hF32
 replace hH := hH.n5
 refine Go2 3 29 (.agg #[.int .i64 ((o20.getD Tv.zero).kind), .string (bs ((o20.getD Tv.zero).text)), .int .u64 (((o20.getD Tv.zero).cl.a : Nat) : Int), .int .u64 (((o20.getD Tv.zero).cl.b : Nat) : Int), .int .u64 (((o20.getD Tv.zero).cl.c : Nat) : Int), .int .u64 (((o20.getD Tv.zero).cl.d : Nat) : Int), .slice ((o20.getD Tv.zero).A) ((o20.getD Tv.zero).subs.length) ((o20.getD Tv.zero).cap), .int .i64 ((o20.getD Tv.zero).pos)]) 30 (.bool o20.isSome) <| gl_st (Alc [.int .i64 0, .string (bs []), .int .u64 0, .int .u64 0, .int .u64 0, .int .u64 0, .slice none 0 0, .int .i64 0] rfl hH ?_)
 clear hH; intro b33 w34 hH
 refine gl_st (Ka 5 [.int .i64 ((o20.getD Tv.zero).kind), .string (bs ((o20.getD Tv.zero).text)), .int .u64 (((o20.getD Tv.zero).cl.a : Nat) : Int), .int .u64 (((o20.getD Tv.zero).cl.b : Nat) : Int), .int .u64 (((o20.getD Tv.zero).cl.c : Nat) : Int), .int .u64 (((o20.getD Tv.zero).cl.d : Nat) : Int), .slice ((o20.getD Tv.zero).A) ((o20.getD Tv.zero).subs.length) ((o20.getD Tv.zero).cap), .int .i64 ((o20.getD Tv.zero).pos)] [.int .i64 ((o20.getD Tv.zero).kind), .string (bs ((o20.getD Tv.zero).text)), .int .u64 (((o20.getD Tv.zero).cl.a : Nat) : Int), .int .u64 (((o20.getD Tv.zero).cl.b : Nat) : Int), .int .u64 (((o20.getD Tv.zero).cl.c : Nat) : Int), .int .u64 (((o20.getD Tv.zero).cl.d : Nat) : Int), .slice ((o20.getD Tv.zero).A) ((o20.getD Tv.zero).subs.length) ((o20.getD Tv.zero).cap), .int .i64 ((o20.getD Tv.zero).pos)] rfl hH rfl rfl ?_)
 clear hH; intro w35 hH
 refine Go1 1 8 (.bool o20.isSome) <| Dn <| sw_seq <| sw_sr <| Go1 2 32 (.bool (!o20.isSome)) <| Dn <| If rfl (fun hc4 => ?_) (fun hc4 => ?_)
 obtain rfl : o20 = none := by
   cases o20 with
   | none => rfl
   | some y => cases hc4
 refine sw_seq <| sw_sr <| Go1 2 34 (.bool ((kd : Int) != (0 : Int))) <| Dn <| If rfl (fun hc5 => ?_) (fun hc5 => ?_)
 have hk0 : ¬ kd = 0 := hc5
 refine sw_region <| Go1 1 35 (Pp g 0) <| gl_st (Sp rfl rfl (YWrong_ct g c23 A22 l21 _ (hH.blk_cell 3 rfl rfl) (hT30.mono hH.zin) hTL26.pos) (fun _ _ h => h.elim) ((fun _ _ h => h.up (mine := []) hH (fun er he => by rw [he]; exact part_wrong hR25 (by rw [hkd]; exact hk0)))))
 have hk0 : kd = 0 := hc5
 refine Sk <| sw_sr <| Go1 1 4 (.bool false) <| Dn <| Rp1 rfl rfl ?_
 replace hH := hH.fr3.fr3.fr5.fr5
 replace hH := (hH.sb (slk (slk (slk (slk sln))))).n4
 have e0 : ts ++ (none : Option Tv).toList = ts := List.append_nil ts
 exact ⟨none, l21, A22, c23, pl24, _, part_none hR25 (by rw [hkd]; exact hk0), rfl, hTL26, (by show l21.length + 0 ≤ l.length; have : l21.length + 0 ≤ (restF l).length := hle27; omega), hpz28, TvsOk.nil, hT30, (fun _ => rfl), by rw [e0]; exact hH.turned⟩
 obtain ⟨t1, rfl⟩ := Option.isSome_iff_exists.1 hc4
 have hle3 : l21.length + 1 ≤ (restF l).length := hle27
 have ht1 : TvOk (pz pl24) t1 := hok29 t1 (List.mem_singleton.2 rfl)
 have hR1 : oneF4 k deep (restF l) = .ok (some t1.nd, l21) := hR25
 refine Sk <| Cu (γ := Tv × List Tk × Option Addr × Nat × Pl) hH (fun (tS, lS, AS, cS, pS) => [(1, Pp b 0), (5, Pp b8 0), (6, .int .i64 kd), (7, Pp b33 0)]) (fun (tS, lS, AS, cS, pS) w_ H_ => (sufF t1.nd l21 = (tS.nd, lS)) ∧ (TL lS) ∧ (lS.length ≤ l21.length) ∧ ((pz pl24).le (pz pS)) ∧ (TvOk (pz pS) tS) ∧ (Row c (.slice AS lS.length cS) 7 lS.length (rowC tkC lS)) ∧ H_ [.blk g 129 [.slice AS lS.length cS, Ni deep], plO pS, .blk b8 131 [Ni ((hdT l).kind), .string (bs ((hdT l).text)), .int .u64 (((hdT l).cl.a : Nat) : Int), .int .u64 (((hdT l).cl.b : Nat) : Int), .int .u64 (((hdT l).cl.c : Nat) : Int), .int .u64 (((hdT l).cl.d : Nat) : Int), Ni ((hdT l).pos)], .blk b33 41 [.int .i64 tS.kind, .string (bs tS.text), .int .u64 ((tS.cl.a : Nat) : Int), .int .u64 ((tS.cl.b : Nat) : Int), .int .u64 ((tS.cl.c : Nat) : Int), .int .u64 ((tS.cl.d : Nat) : Int), .slice tS.A tS.subs.length tS.cap, .int .i64 tS.pos], .blk b 39 [.slice A1 ts.length c2], .row (.slice A1 ts.length c2) 41 8 ts.length (rowC tvC ts)]) ?_ ?_
 ·
  refine sw_sr <| Go1 1 9 (.int .i64 0) <| Dn <| sw_sr <| Go1 1 37 (Pp g 0) <| gl_st (Sc rfl rfl (YSign_ct g c23 A22 l21 _ (hH.blk_cell 3 rfl rfl) (hT30.mono hH.zin) hTL26.pos) ?_)
  rintro _ w38 ⟨rfl, hF39⟩
  replace hH := hH.call hF39
  refine Dn <| sw_block <| sw_seq <| sw_block <| sw_seq <| sw_block <| sw_seq <| sw_block <| sw_seq <| sw_seq <| sw_sr <| Gq rfl (rd_seql (by kernel_rfl) rfl rfl) <| Go1 1 39 (.bool ((sgF4 l21) == [43])) <| Dn <| If rfl (fun hc6 => ?_) (fun hc6 => ?_)
  have h43 : sgF4 l21 = [43] := hc6
  have h7 : (hdT l21).kind ≠ 6 := by have := sg_kind h43; omega
  refine sw_exit <| thX <| thX <| bkH <| sw_next <| sw_region <| Gw0 2 46 (0 + 1) 1 <| Go1 1 9 (.int .i64 1) <| Dd <| bkN <| sw_next <| sw_region <| Gw0 2 48 (1 + 1) 2 <| Go1 1 9 (.int .i64 2) <| Dd <| bkN <| sw_next <| sw_seq <| sw_sr <| Go1 1 49 (Pp g 0) ?_
  replace hH : Hp w w38 _ _ ([_] ++ [_, _, _, _, _]) := hH.fr4
  refine gl_st (Sc rfl rfl (YNext_ct g c23 deep A22 l21 c _ hH.zoff hH.mine hT30 hTL26.pos) ?_)
  rintro _ w43 ⟨A40, c41, rfl, hT42, hF44⟩
  replace hH := hH.turns hF44
  replace hH := hH.n6
  refine Dn <| sw_region <| Gw0 2 52 (8 + 2) 10 <| Gq rfl (La 4 [.int .i64 t1.kind, .string (bs t1.text), .int .u64 ((t1.cl.a : Nat) : Int), .int .u64 ((t1.cl.b : Nat) : Int), .int .u64 ((t1.cl.c : Nat) : Int), .int .u64 ((t1.cl.d : Nat) : Int), .slice t1.A t1.subs.length t1.cap, .int .i64 t1.pos] hH rfl rfl) <| gl_st (st_buildS (e := 41) (zv := .agg #[.int .i64 0, .string (bs []), .int .u64 0, .int .u64 0, .int .u64 0, .int .u64 0, .slice none 0 0, .int .i64 0]) (m := 8) (bytes := 88) rfl rfl rfl (by kernel_rfl) (by kernel_rfl) rfl (cs := [.int .i64 t1.kind, .string (bs t1.text), .int .u64 ((t1.cl.a : Nat) : Int), .int .u64 ((t1.cl.b : Nat) : Int), .int .u64 ((t1.cl.c : Nat) : Int), .int .u64 ((t1.cl.d : Nat) : Int), .slice t1.A t1.subs.length t1.cap, .int .i64 t1.pos]) (by kernel_rfl) rfl hH ?_)
  clear hH; intro b45 w46 hH
  refine Go1 1 55 (Pp b33 7) <| Gq rfl (Lk 4 hH rfl rfl rfl) <| Go1 1 57 (.agg #[.int .i64 10, .string (bs []), .int .u64 0, .int .u64 0, .int .u64 0, .int .u64 0, .slice (some ⟨b45, 0, none⟩) 1 1, .int .i64 t1.pos]) <| gl_st (Ka 4 [.int .i64 10, .string (bs []), .int .u64 0, .int .u64 0, .int .u64 0, .int .u64 0, .slice (some ⟨b45, 0, none⟩) 1 1, .int .i64 t1.pos] [.int .i64 10, .string (bs []), .int .u64 0, .int .u64 0, .int .u64 0, .int .u64 0, .slice (some ⟨b45, 0, none⟩) 1 1, .int .i64 t1.pos] rfl hH rfl rfl ?_)
  clear hH; intro w47 hH
  replace hH := hH.row_eq 6 (l' := 1) (xs' := rowC tvC [t1]) rfl (rfl) (rfl)
  replace hH := hH.fr4.fr7
  obtain ⟨pl48, hp49, hH⟩ := pl_add hH
  refine Dd <| sw_next <| sw_exit <| bkH <| Ce ((Tv.mk 10 [] Cl.zero (some ⟨b45, 0, none⟩) 1 [t1] t1.pos), l21.tail, A40, c41, (pl24 ++ pl48)) ?_
  replace hH := hH.fr4.fr4.fr5.fr5.fr5.fr6
  replace hH := (hH.sb (slk (slk (slk (slk (slk (slk sln))))))).n6
  exact ⟨(by unfold sufF; rw [if_pos h43, Tv.nd_pos]; rfl), hTL26.tail h7, (by rw [List.length_tail]; omega), (pz_app pl24 pl48), TvOk.wrap (by decide) ht1.pos_ok hp49 (ht1.mono (pz_app pl24 pl48)), hT42, hH⟩
  have h43 : ¬ sgF4 l21 = [43] := hc6
  refine Sk <| sw_seq <| sw_sr <| Gq rfl (rd_seql (by kernel_rfl) rfl rfl) <| Go1 1 41 (.bool ((sgF4 l21) == [42])) <| Dn <| If rfl (fun hc7 => ?_) (fun hc7 => ?_)
  have h42 : sgF4 l21 = [42] := hc7
  have h7 : (hdT l21).kind ≠ 6 := by have := sg_kind h42; omega
  refine sw_exit <| thX <| thX <| bkX rfl <| thX <| bkH <| sw_next <| sw_region <| Gw0 2 48 (0 + 1) 1 <| Go1 1 9 (.int .i64 1) <| Dd <| bkN <| sw_next <| sw_seq <| sw_sr <| Go1 1 49 (Pp g 0) ?_
  replace hH : Hp w w38 _ _ ([_] ++ [_, _, _, _, _]) := hH.fr4
  refine gl_st (Sc rfl rfl (YNext_ct g c23 deep A22 l21 c _ hH.zoff hH.mine hT30 hTL26.pos) ?_)
  rintro _ w53 ⟨A50, c51, rfl, hT52, hF54⟩
  replace hH := hH.turns hF54
  replace hH := hH.n6
  refine Dn <| sw_region <| Gw0 2 52 (8 + 1) 9 <| Gq rfl (La 4 [.int .i64 t1.kind, .string (bs t1.text), .int .u64 ((t1.cl.a : Nat) : Int), .int .u64 ((t1.cl.b : Nat) : Int), .int .u64 ((t1.cl.c : Nat) : Int), .int .u64 ((t1.cl.d : Nat) : Int), .slice t1.A t1.subs.length t1.cap, .int .i64 t1.pos] hH rfl rfl) <| gl_st (st_buildS (e := 41) (zv := .agg #[.int .i64 0, .string (bs []), .int .u64 0, .int .u64 0, .int .u64 0, .int .u64 0, .slice none 0 0, .int .i64 0]) (m := 8) (bytes := 88) rfl rfl rfl (by kernel_rfl) (by kernel_rfl) rfl (cs := [.int .i64 t1.kind, .string (bs t1.text), .int .u64 ((t1.cl.a : Nat) : Int), .int .u64 ((t1.cl.b : Nat) : Int), .int .u64 ((t1.cl.c : Nat) : Int), .int .u64 ((t1.cl.d : Nat) : Int), .slice t1.A t1.subs.length t1.cap, .int .i64 t1.pos]) (by kernel_rfl) rfl hH ?_)
  clear hH; intro b55 w56 hH
  refine Go1 1 55 (Pp b33 7) <| Gq rfl (Lk 4 hH rfl rfl rfl) <| Go1 1 57 (.agg #[.int .i64 9, .string (bs []), .int .u64 0, .int .u64 0, .int .u64 0, .int .u64 0, .slice (some ⟨b55, 0, none⟩) 1 1, .int .i64 t1.pos]) <| gl_st (Ka 4 [.int .i64 9, .string (bs []), .int .u64 0, .int .u64 0, .int .u64 0, .int .u64 0, .slice (some ⟨b55, 0, none⟩) 1 1, .int .i64 t1.pos] [.int .i64 9, .string (bs []), .int .u64 0, .int .u64 0, .int .u64 0, .int .u64 0, .slice (some ⟨b55, 0, none⟩) 1 1, .int .i64 t1.pos] rfl hH rfl rfl ?_)
  clear hH; intro w57 hH
  replace hH := hH.row_eq 6 (l' := 1) (xs' := rowC tvC [t1]) rfl (rfl) (rfl)
  replace hH := hH.fr4.fr7
  obtain ⟨pl58, hp59, hH⟩ := pl_add hH
  refine Dd <| sw_next <| sw_exit <| bkH <| Ce ((Tv.mk 9 [] Cl.zero (some ⟨b55, 0, none⟩) 1 [t1] t1.pos), l21.tail, A50, c51, (pl24 ++ pl58)) ?_
  replace hH := hH.fr4.fr4.fr5.fr5.fr5.fr6
  replace hH := (hH.sb (slk (slk (slk (slk (slk (slk sln))))))).n6
  exact ⟨(by unfold sufF; rw [if_neg h43, if_pos h42, Tv.nd_pos]; rfl), hTL26.tail h7, (by rw [List.length_tail]; omega), (pz_app pl24 pl58), TvOk.wrap (by decide) ht1.pos_ok hp59 (ht1.mono (pz_app pl24 pl58)), hT52, hH⟩
  have h42 : ¬ sgF4 l21 = [42] := hc7
  refine Sk <| sw_sr <| Gq rfl (rd_seql (by kernel_rfl) rfl rfl) <| Go1 1 43 (.bool ((sgF4 l21) == [63])) <| Dn <| If rfl (fun hc8 => ?_) (fun hc8 => ?_)
  have h63 : sgF4 l21 = [63] := hc8
  have h7 : (hdT l21).kind ≠ 6 := by have := sg_kind h63; omega
  refine sw_exit <| thX <| bkX rfl <| thX <| bkX rfl <| thX <| bkH <| sw_next <| sw_seq <| sw_sr <| Go1 1 49 (Pp g 0) ?_
  replace hH : Hp w w38 _ _ ([_] ++ [_, _, _, _, _]) := hH.fr4
  refine gl_st (Sc rfl rfl (YNext_ct g c23 deep A22 l21 c _ hH.zoff hH.mine hT30 hTL26.pos) ?_)
  rintro _ w63 ⟨A60, c61, rfl, hT62, hF64⟩
  replace hH := hH.turns hF64
  replace hH := hH.n6
  refine Dn <| sw_region <| Gw0 2 52 (8 + 0) 8 <| Gq rfl (La 4 [.int .i64 t1.kind, .string (bs t1.text), .int .u64 ((t1.cl.a : Nat) : Int), .int .u64 ((t1.cl.b : Nat) : Int), .int .u64 ((t1.cl.c : Nat) : Int), .int .u64 ((t1.cl.d : Nat) : Int), .slice t1.A t1.subs.length t1.cap, .int .i64 t1.pos] hH rfl rfl) <| gl_st (st_buildS (e := 41) (zv := .agg #[.int .i64 0, .string (bs []), .int .u64 0, .int .u64 0, .int .u64 0, .int .u64 0, .slice none 0 0, .int .i64 0]) (m := 8) (bytes := 88) rfl rfl rfl (by kernel_rfl) (by kernel_rfl) rfl (cs := [.int .i64 t1.kind, .string (bs t1.text), .int .u64 ((t1.cl.a : Nat) : Int), .int .u64 ((t1.cl.b : Nat) : Int), .int .u64 ((t1.cl.c : Nat) : Int), .int .u64 ((t1.cl.d : Nat) : Int), .slice t1.A t1.subs.length t1.cap, .int .i64 t1.pos]) (by kernel_rfl) rfl hH ?_)
  clear hH; intro b65 w66 hH
  refine Go1 1 55 (Pp b33 7) <| Gq rfl (Lk 4 hH rfl rfl rfl) <| Go1 1 57 (.agg #[.int .i64 8, .string (bs []), .int .u64 0, .int .u64 0, .int .u64 0, .int .u64 0, .slice (some ⟨b65, 0, none⟩) 1 1, .int .i64 t1.pos]) <| gl_st (Ka 4 [.int .i64 8, .string (bs []), .int .u64 0, .int .u64 0, .int .u64 0, .int .u64 0, .slice (some ⟨b65, 0, none⟩) 1 1, .int .i64 t1.pos] [.int .i64 8, .string (bs []), .int .u64 0, .int .u64 0, .int .u64 0, .int .u64 0, .slice (some ⟨b65, 0, none⟩) 1 1, .int .i64 t1.pos] rfl hH rfl rfl ?_)
  clear hH; intro w67 hH
  replace hH := hH.row_eq 6 (l' := 1) (xs' := rowC tvC [t1]) rfl (rfl) (rfl)
  replace hH := hH.fr4.fr7
  obtain ⟨pl68, hp69, hH⟩ := pl_add hH
  refine Dd <| sw_next <| sw_exit <| bkH <| Ce ((Tv.mk 8 [] Cl.zero (some ⟨b65, 0, none⟩) 1 [t1] t1.pos), l21.tail, A60, c61, (pl24 ++ pl68)) ?_
  replace hH := hH.fr4.fr4.fr5.fr5.fr5.fr6
  replace hH := (hH.sb (slk (slk (slk (slk (slk (slk sln))))))).n6
  exact ⟨(by unfold sufF; rw [if_neg h43, if_neg h42, if_pos h63, Tv.nd_pos]; rfl), hTL26.tail h7, (by rw [List.length_tail]; omega), (pz_app pl24 pl68), TvOk.wrap (by decide) ht1.pos_ok hp69 (ht1.mono (pz_app pl24 pl68)), hT62, hH⟩
  have h63 : ¬ sgF4 l21 = [63] := hc8
  refine Sk <| sw_exit <| bkX rfl <| thX <| bkX rfl <| thX <| bkX rfl <| thX <| bkH <| Ce (t1, l21, A22, c23, pl24) ?_
  replace hH := hH.fr3.fr3.fr6.fr4.fr6.fr6
  replace hH := (hH.sb (slk (slk (slk (slk (slk (slk sln))))))).n6
  exact ⟨(by unfold sufF; rw [if_neg h43, if_neg h42, if_neg h63]), hTL26, Nat.le_refl _, Zone.le.refl _, ht1, hT30, hH⟩
 clear hH
 rintro ⟨tS, lS, AS, cS, pS⟩ w70 ⟨hsuf, hTS, hle4, hpz4, htS, hTW, hH⟩
 refine swk [(1, Pp b 0), (5, Pp b8 0), (6, .int .i64 kd), (7, Pp b33 0)] <| Cu (γ := Tv × Pl) hH (fun (tF, pF) => [(1, Pp b 0), (7, Pp b33 0)]) (fun (tF, pF) w_ H_ => (preF kd tS.nd l = tF.nd) ∧ ((pz pS).le (pz pF)) ∧ (TvOk (pz pF) tF) ∧ H_ [.blk g 129 [.slice AS lS.length cS, Ni deep], plO pF, .blk b33 41 [.int .i64 tF.kind, .string (bs tF.text), .int .u64 ((tF.cl.a : Nat) : Int), .int .u64 ((tF.cl.b : Nat) : Int), .int .u64 ((tF.cl.c : Nat) : Int), .int .u64 ((tF.cl.d : Nat) : Int), .slice tF.A tF.subs.length tF.cap, .int .i64 tF.pos], .blk b 39 [.slice A1 ts.length c2], .row (.slice A1 ts.length c2) 41 8 ts.length (rowC tvC ts)]) ?_ ?_
 ·
  refine sw_sr <| Go1 2 59 (.bool ((kd : Int) != (0 : Int))) <| Dn <| If rfl (fun hc9 => ?_) (fun hc9 => ?_)
  have hk0 : ¬ kd = 0 := hc9
  refine sw_region <| Go1 1 60 (.int .i64 kd) <| Gq rfl (La 3 [.int .i64 tS.kind, .string (bs tS.text), .int .u64 ((tS.cl.a : Nat) : Int), .int .u64 ((tS.cl.b : Nat) : Int), .int .u64 ((tS.cl.c : Nat) : Int), .int .u64 ((tS.cl.d : Nat) : Int), .slice tS.A tS.subs.length tS.cap, .int .i64 tS.pos] hH rfl rfl) <| gl_st (st_buildS (e := 41) (zv := .agg #[.int .i64 0, .string (bs []), .int .u64 0, .int .u64 0, .int .u64 0, .int .u64 0, .slice none 0 0, .int .i64 0]) (m := 8) (bytes := 88) rfl rfl rfl (by kernel_rfl) (by kernel_rfl) rfl (cs := [.int .i64 tS.kind, .string (bs tS.text), .int .u64 ((tS.cl.a : Nat) : Int), .int .u64 ((tS.cl.b : Nat) : Int), .int .u64 ((tS.cl.c : Nat) : Int), .int .u64 ((tS.cl.d : Nat) : Int), .slice tS.A tS.subs.length tS.cap, .int .i64 tS.pos]) (by kernel_rfl) rfl hH ?_)
  clear hH; intro b71 w72 hH
  refine Go1 1 63 (Pp b8 6) <| Gq rfl (Lk 2 hH rfl rfl rfl) <| Go1 1 65 (.agg #[.int .i64 kd, .string (bs []), .int .u64 0, .int .u64 0, .int .u64 0, .int .u64 0, .slice (some ⟨b71, 0, none⟩) 1 1, Ni ((hdT l).pos)]) <| gl_st (Ka 3 [.int .i64 kd, .string (bs []), .int .u64 0, .int .u64 0, .int .u64 0, .int .u64 0, .slice (some ⟨b71, 0, none⟩) 1 1, Ni ((hdT l).pos)] [.int .i64 kd, .string (bs []), .int .u64 0, .int .u64 0, .int .u64 0, .int .u64 0, .slice (some ⟨b71, 0, none⟩) 1 1, Ni ((hdT l).pos)] rfl hH rfl rfl ?_)
  clear hH; intro w73 hH
  replace hH := hH.row_eq 6 (l' := 1) (xs' := rowC tvC [tS]) rfl (rfl) (rfl)
  replace hH := hH.fr2.fr7
  obtain ⟨pl74, hp75, hH⟩ := pl_add hH
  refine Dd <| Ce ((Tv.mk kd [] Cl.zero (some ⟨b71, 0, none⟩) 1 [tS] ((hdT l).pos : Nat)), (pS ++ pl74)) ?_
  replace hH := hH.fr6.fr6.fr6.fr4.fr5
  replace hH := (hH.sb (slk (slk (slk (slk (slk sln)))))).n5
  exact ⟨if_neg hk0, (pz_app pS pl74), TvOk.wrap (by omega) (pos_i64 hT0) hp75 (htS.mono (pz_app pS pl74)), hH⟩
  have hk0 : kd = 0 := hc9
  refine sw_skip <| Ce (tS, pS) ?_
  replace hH := hH.fr6.fr6.fr6.fr5.fr5
  replace hH := (hH.sb (slk (slk (slk (slk (slk sln)))))).n5
  exact ⟨if_pos hk0, Zone.le.refl _, htS, hH⟩
 clear hH
 rintro ⟨tF, pF⟩ w76 ⟨hpre, hpz5, htF, hH⟩
 refine swk [(1, Pp b 0), (7, Pp b33 0)] <| sw_seq <| Dr hH (slk (slk (slk sln))) ?_
 clear hH; intro w77 hH hS9
 refine Gp2 2 [0,1] 66 (Pp b 0) 67 (Pp b 0) hS9 <| Dq 3 rfl (fun _ hS => (La 2 [.int .i64 tF.kind, .string (bs tF.text), .int .u64 ((tF.cl.a : Nat) : Int), .int .u64 ((tF.cl.b : Nat) : Int), .int .u64 ((tF.cl.c : Nat) : Int), .int .u64 ((tF.cl.d : Nat) : Int), .slice tF.A tF.subs.length tF.cap, .int .i64 tF.pos] hS rfl rfl)) hS9 <| gd_st2 2 5 (by kernel_rfl) ?_ ?_
 refine st_q rfl rfl rfl (Lk 3 hH rfl rfl rfl) <| Nl hS9 fun hS9 => gdk [(66, Pp b 0), (68, .slice A1 ts.length c2), (69, .agg #[.int .i64 tF.kind, .string (bs tF.text), .int .u64 ((tF.cl.a : Nat) : Int), .int .u64 ((tF.cl.b : Nat) : Int), .int .u64 ((tF.cl.c : Nat) : Int), .int .u64 ((tF.cl.d : Nat) : Int), .slice tF.A tF.subs.length tF.cap, .int .i64 tF.pos])] <| Dq 4 rfl (fun _ hS => (Ln (e := 41) rfl)) hS9 <| gds 5 (st_buildS (e := 41) (zv := .agg #[.int .i64 0, .string (bs []), .int .u64 0, .int .u64 0, .int .u64 0, .int .u64 0, .slice none 0 0, .int .i64 0]) (m := 8) (bytes := 88) rfl rfl rfl (by kernel_rfl) (by kernel_rfl) rfl (cs := [.int .i64 0, .string (bs []), .int .u64 0, .int .u64 0, .int .u64 0, .int .u64 0, .slice none 0 0, .int .i64 0]) (by kernel_rfl) rfl hH ?_)
 clear hH; intro b78 w79 hH
 refine Nl (hH.sb (slk (slk (slk sln)))) fun hS9 => gds 6 (Apd (e := 41) (.agg #[.int .i64 0, .string (bs []), .int .u64 0, .int .u64 0, .int .u64 0, .int .u64 0, .slice none 0 0, .int .i64 0]) 8 88 4 rfl hH rfl rfl rfl (hH.row_reads 5 rfl) (by simp [Value.oneCell']) (by unfold maxLen; omega) (by omega) ?_)
 clear hH; intro v80 w81 hH
 replace hH := hH.row_eq 4 (l' := ts.length + 1) (xs' := rowC tvC (ts ++ [Tv.zero])) rfl (rfl) (by rw [← rowC_app, rowC_one]; rfl)
 obtain ⟨A82, c83, rfl, hl84, hm85⟩ := hH.row_form 4 rfl
 refine Nl (hH.sb (slk (slk (slk sln)))) fun hS9 => ?_
 obtain ⟨b87, hb86, hi88⟩ := hH.row_idx 4 rfl ts.length (by omega)
 refine Dq 7 rfl (fun _ hS => (Ix (e := 41) 8 rfl rfl hi88)) hS9 <| Gp1 1 [9] 74 (Pp b 0) hS9 <| gd_st2 8 10 (by kernel_rfl) ?_ ?_
 refine st_storeOA (vs := [.int .i64 tF.kind, .string (bs tF.text), .int .u64 ((tF.cl.a : Nat) : Int), .int .u64 ((tF.cl.b : Nat) : Int), .int .u64 ((tF.cl.c : Nat) : Int), .int .u64 ((tF.cl.d : Nat) : Int), .slice tF.A tF.subs.length tF.cap, .int .i64 tF.pos]) 4 rfl rfl rfl hH rfl rfl rfl (by kernel_rfl) rfl hb86 (by rw [rowC_len tvC_len]; simp; omega) ?_
 clear hH; intro w89 hH
 replace hH := hH.row_eq 4 (l' := ts.length + 1) (xs' := rowC tvC (ts ++ [tF])) rfl (rfl) (rowC_last tvC_len ts Tv.zero tF)
 refine Nl (hH.sb (slk (slk (slk sln)))) fun hS9 => gdk [(72, .slice A82 (ts.length + 1) c83), (74, Pp b 0)] <| gds 10 (Ks 3 (.slice A82 (ts.length + 1) c83) rfl hH rfl rfl ?_)
 clear hH; intro w90 hH
 refine Nl (hH.sb (slk (slk (slk sln)))) fun hS9 => gdn [] <| sw_next <| sw_sr <| Go1 1 4 (.bool true) <| Dn <| Rp1 rfl rfl ?_
 replace hH := hH.row_eq 4 (l' := (ts ++ [tF]).length) (xs' := rowC tvC (ts ++ [tF])) rfl (by simp) (rfl)
 replace hH := hH.fr5.fr5.fr4.fr4
 replace hH := (hH.sb (slk (slk (slk (slk sln))))).n4
 exact ⟨some tF, lS, AS, cS, pF, _, (by rw [part_some hR1, hsuf, hkd]; show Except.ok (some (preF kd tS.nd l), lS) = Except.ok (some tF.nd, lS); rw [hpre]), rfl, hTS, (by show lS.length + 1 ≤ l.length; omega), hpz28.trans (hpz4.trans hpz5), TvsOk.one htF, hTW, (fun h => by cases h), hH.turned⟩
 refine Ks 3 (.slice A82 (ts.length + 1) c83) rfl hH rfl rfl ?_
 clear hH; intro w91 hH
 refine Nl (hH.sb (slk (slk (slk sln)))) fun hS9 => gdk [(69, .agg #[.int .i64 tF.kind, .string (bs tF.text), .int .u64 ((tF.cl.a : Nat) : Int), .int .u64 ((tF.cl.b : Nat) : Int), .int .u64 ((tF.cl.c : Nat) : Int), .int .u64 ((tF.cl.d : Nat) : Int), .slice tF.A tF.subs.length tF.cap, .int .i64 tF.pos]), (73, Pp b87 (ts.length * 8))] <| gds 8 (st_storeOA (vs := [.int .i64 tF.kind, .string (bs tF.text), .int .u64 ((tF.cl.a : Nat) : Int), .int .u64 ((tF.cl.b : Nat) : Int), .int .u64 ((tF.cl.c : Nat) : Int), .int .u64 ((tF.cl.d : Nat) : Int), .slice tF.A tF.subs.length tF.cap, .int .i64 tF.pos]) 4 rfl rfl rfl hH rfl rfl rfl (by kernel_rfl) rfl hb86 (by rw [rowC_len tvC_len]; simp; omega) ?_)
 clear hH; intro w92 hH
 replace hH := hH.row_eq 4 (l' := ts.length + 1) (xs' := rowC tvC (ts ++ [tF])) rfl (rfl) (rowC_last tvC_len ts Tv.zero tF)
 refine Nl (hH.sb (slk (slk (slk sln)))) fun hS9 => gdn [] <| sw_next <| sw_sr <| Go1 1 4 (.bool true) <| Dn <| Rp1 rfl rfl ?_
 replace hH := hH.row_eq 4 (l' := (ts ++ [tF]).length) (xs' := rowC tvC (ts ++ [tF])) rfl (by simp) (rfl)
 replace hH := hH.fr5.fr5.fr4.fr4
 replace hH := (hH.sb (slk (slk (slk (slk sln))))).n4
 exact ⟨some tF, lS, AS, cS, pF, _, (by rw [part_some hR1, hsuf, hkd]; show Except.ok (some (preF kd tS.nd l), lS) = Except.ok (some tF.nd, lS); rw [hpre]), rfl, hTS, (by show lS.length + 1 ≤ l.length; omega), hpz28.trans (hpz4.trans hpz5), TvsOk.one htF, hTW, (fun h => by cases h), hH.turned⟩
 refine st_buildS (e := 41) (zv := .agg #[.int .i64 0, .string (bs []), .int .u64 0, .int .u64 0, .int .u64 0, .int .u64 0, .slice none 0 0, .int .i64 0]) (m := 8) (bytes := 88) rfl rfl rfl (by kernel_rfl) (by kernel_rfl) rfl (cs := [.int .i64 0, .string (bs []), .int .u64 0, .int .u64 0, .int .u64 0, .int .u64 0, .slice none 0 0, .int .i64 0]) (by kernel_rfl) rfl hH ?_
 clear hH; intro b93 w94 hH
 refine Nl (hH.sb (slk (slk (slk sln)))) fun hS9 => gdk [(66, Pp b 0), (67, Pp b 0), (69, .agg #[.int .i64 tF.kind, .string (bs tF.text), .int .u64 ((tF.cl.a : Nat) : Int), .int .u64 ((tF.cl.b : Nat) : Int), .int .u64 ((tF.cl.c : Nat) : Int), .int .u64 ((tF.cl.d : Nat) : Int), .slice tF.A tF.subs.length tF.cap, .int .i64 tF.pos]), (71, .slice (some ⟨b93, 0, none⟩) 1 1)] <| gds 2 (st_q rfl rfl rfl (Lk 3 hH rfl rfl rfl) ?_)
 refine Nl hS9 fun hS9 => Dq 4 rfl (fun _ hS => (Ln (e := 41) rfl)) hS9 <| gds 6 (Apd (e := 41) (.agg #[.int .i64 0, .string (bs []), .int .u64 0, .int .u64 0, .int .u64 0, .int .u64 0, .slice none 0 0, .int .i64 0]) 8 88 4 rfl hH rfl rfl rfl (hH.row_reads 5 rfl) (by simp [Value.oneCell']) (by unfold maxLen; omega) (by omega) ?_)
 clear hH; intro v95 w96 hH
 replace hH := hH.row_eq 4 (l' := ts.length + 1) (xs' := rowC tvC (ts ++ [Tv.zero])) rfl (rfl) (by rw [← rowC_app, rowC_one]; rfl)
 obtain ⟨A97, c98, rfl, hl99, hm100⟩ := hH.row_form 4 rfl
 refine Nl (hH.sb (slk (slk (slk sln)))) fun hS9 => ?_
 obtain ⟨b102, hb101, hi103⟩ := hH.row_idx 4 rfl ts.length (by omega)
 refine Dq 7 rfl (fun _ hS => (Ix (e := 41) 8 rfl rfl hi103)) hS9 <| Gp1 1 [9] 74 (Pp b 0) hS9 <| gd_st2 8 10 (by kernel_rfl) ?_ ?_
 refine st_storeOA (vs := [.int .i64 tF.kind, .string (bs tF.text), .int .u64 ((tF.cl.a : Nat) : Int), .int .u64 ((tF.cl.b : Nat) : Int), .int .u64 ((tF.cl.c : Nat) : Int), .int .u64 ((tF.cl.d : Nat) : Int), .slice tF.A tF.subs.length tF.cap, .int .i64 tF.pos]) 4 rfl rfl rfl hH rfl rfl rfl (by kernel_rfl) rfl hb101 (by rw [rowC_len tvC_len]; simp; omega) ?_
 clear hH; intro w104 hH
 replace hH := hH.row_eq 4 (l' := ts.length + 1) (xs' := rowC tvC (ts ++ [tF])) rfl (rfl) (rowC_last tvC_len ts Tv.zero tF)
 refine Nl (hH.sb (slk (slk (slk sln)))) fun hS9 => gdk [(72, .slice A97 (ts.length + 1) c98), (74, Pp b 0)] <| gds 10 (Ks 3 (.slice A97 (ts.length + 1) c98) rfl hH rfl rfl ?_)
 clear hH; intro w105 hH
 refine Nl (hH.sb (slk (slk (slk sln)))) fun hS9 => gdn [] <| sw_next <| sw_sr <| Go1 1 4 (.bool true) <| Dn <| Rp1 rfl rfl ?_
 replace hH := hH.row_eq 4 (l' := (ts ++ [tF]).length) (xs' := rowC tvC (ts ++ [tF])) rfl (by simp) (rfl)
 replace hH := hH.fr5.fr5.fr4.fr4
 replace hH := (hH.sb (slk (slk (slk (slk sln))))).n4
 exact ⟨some tF, lS, AS, cS, pF, _, (by rw [part_some hR1, hsuf, hkd]; show Except.ok (some (preF kd tS.nd l), lS) = Except.ok (some tF.nd, lS); rw [hpre]), rfl, hTS, (by show lS.length + 1 ≤ l.length; omega), hpz28.trans (hpz4.trans hpz5), TvsOk.one htF, hTW, (fun h => by cases h), hH.turned⟩
 refine Ks 3 (.slice A97 (ts.length + 1) c98) rfl hH rfl rfl ?_
 clear hH; intro w106 hH
 refine Nl (hH.sb (slk (slk (slk sln)))) fun hS9 => gdk [(69, .agg #[.int .i64 tF.kind, .string (bs tF.text), .int .u64 ((tF.cl.a : Nat) : Int), .int .u64 ((tF.cl.b : Nat) : Int), .int .u64 ((tF.cl.c : Nat) : Int), .int .u64 ((tF.cl.d : Nat) : Int), .slice tF.A tF.subs.length tF.cap, .int .i64 tF.pos]), (73, Pp b102 (ts.length * 8))] <| gds 8 (st_storeOA (vs := [.int .i64 tF.kind, .string (bs tF.text), .int .u64 ((tF.cl.a : Nat) : Int), .int .u64 ((tF.cl.b : Nat) : Int), .int .u64 ((tF.cl.c : Nat) : Int), .int .u64 ((tF.cl.d : Nat) : Int), .slice tF.A tF.subs.length tF.cap, .int .i64 tF.pos]) 4 rfl rfl rfl hH rfl rfl rfl (by kernel_rfl) rfl hb101 (by rw [rowC_len tvC_len]; simp; omega) ?_)
 clear hH; intro w107 hH
 replace hH := hH.row_eq 4 (l' := ts.length + 1) (xs' := rowC tvC (ts ++ [tF])) rfl (rfl) (rowC_last tvC_len ts Tv.zero tF)
 refine Nl (hH.sb (slk (slk (slk sln)))) fun hS9 => gdn [] <| sw_next <| sw_sr <| Go1 1 4 (.bool true) <| Dn <| Rp1 rfl rfl ?_
 replace hH := hH.row_eq 4 (l' := (ts ++ [tF]).length) (xs' := rowC tvC (ts ++ [tF])) rfl (by simp) (rfl)
 replace hH := hH.fr5.fr5.fr4.fr4
 replace hH := (hH.sb (slk (slk (slk (slk sln))))).n4
 exact ⟨some tF, lS, AS, cS, pF, _, (by rw [part_some hR1, hsuf, hkd]; show Except.ok (some (preF kd tS.nd l), lS) = Except.ok (some tF.nd, lS); rw [hpre]), rfl, hTS, (by show lS.length + 1 ≤ l.length; omega), hpz28.trans (hpz4.trans hpz5), TvsOk.one htF, hTW, (fun h => by cases h), hH.turned⟩
end Go.Proofs.YtllfpnbhjfadiaaGreatDoor
/- Layer 4 (syntax): rows and choices: what the program's functions answer. -/
set_option maxRecDepth 100000
set_option maxHeartbeats 2000000
set_option linter.unusedVariables false
set_option linter.unusedSimpArgs false
namespace Go.Proofs.YtllfpnbhjfadiaaGreatDoor
open Go.RowKit Go.SW

theorem YRow_ct (k : Nat) (IH : ∀ j, j ≤ k → PaC j) : RdC 106 rowF4 7 0 (k + 1) := by
 intro g cap deep A l pl c w hk hd hT0 hd1 hc hM hT
 have hpos := hT0.pos
 have hT0le := hT0.le
 refine funP_of_sw Tryz.func106 rfl 18 rfl rfl ?_
 have hH := (Hp.start_mine hM).zsub hc
 refine sw_sr <| gl_st (Alc [.int .i64 0, .string (bs []), .int .u64 0, .int .u64 0, .int .u64 0, .int .u64 0, .slice none 0 0, .int .i64 0] rfl hH ?_)
 clear hH; intro b1 w2 hH
 refine Dn <| sw_sr <| gl_st (Alc [.slice none 0 0] rfl hH ?_)
 clear hH; intro b3 w4 hH
 refine Dn <| sw_seq <| sw_block ?_
 replace hH := hH.nilRow 41 8
 refine Lp (γ := List Tv × List Tk × Option Addr × Nat × Pl × Value × Nat) hH (fun (ts, lN, AN, cN, pN, xN, j) => [(0, Pp g 0), (2, Pp b1 0), (3, Pp b3 0)]) (fun (ts, lN, AN, cN, pN, xN, j) w_ H_ => (partsF4 k deep [] l = partsF4 (j + 1) deep (ts.map Tv.nd) lN) ∧ (8 * lN.length + 6 ≤ j + 1) ∧ (j + 1 ≤ k) ∧ (TL lN) ∧ (ts.length + lN.length ≤ l.length) ∧ ((pz pl).le (pz pN)) ∧ (TvsOk (pz pN) ts) ∧ (ts = [] → xN = .slice none 0 0) ∧ (Row c (.slice AN lN.length cN) 7 lN.length (rowC tkC lN)) ∧ H_ [.blk g 129 [.slice AN lN.length cN, Ni deep], plO pN, .blk b1 41 [.int .i64 0, .string (bs []), .int .u64 0, .int .u64 0, .int .u64 0, .int .u64 0, .slice none 0 0, .int .i64 0], .blk b3 39 [xN], .row xN 41 8 ts.length (rowC tvC ts)]) (fun (ts, lN, AN, cN, pN, xN, j) => lN.length) ([], l, A, cap, pl, .slice none 0 0, k - 1) ?_ ?_
 · exact ⟨(by show partsF4 k deep [] l = partsF4 (k - 1 + 1) deep [] l; rw [show k - 1 + 1 = k from by omega]), by omega, by omega, hT0, (by show 0 + l.length ≤ _; omega), Zone.le.refl _, TvsOk.nil, (fun _ => rfl), hT, hH⟩
 clear hH
 rintro ⟨ts, lN, AN, cN, pN, xN, j⟩ w5 ⟨hm, hj, hj2, hTN, hlN, hpN, hoN, hxN, hrN, hH⟩
 refine swk [(0, Pp g 0), (2, Pp b1 0), (3, Pp b3 0)] <| sw_seq <| sw_sr <| Go1 1 4 (Pp g 0) ?_
 replace hH : Hp w w5 _ _ ([_, _, _, _] ++ [_]) := hH.fr5.fr5.fr4.fr4
 refine gl_st (Sp rfl rfl (IH j (by omega) g cN deep AN lN pN b3 xN ts c _ (by omega) hd hTN (by omega) hH.zoff hH.mine hrN) ?_ ((fun _ _ h => h.up hH (fun er he => row_err (hm.trans (parts_err he))))))
 rintro _ w19 ⟨o6, l7, A8, c9, pl10, x11, hR12, rfl, hTL13, hle14, hpz15, hok16, hT17, hx18, hF20⟩
 replace hH := hH.turns hF20
 replace hH := hH.n5
 refine Dn <| If rfl (fun hc1 => ?_) (fun hc1 => ?_)
 obtain ⟨t1, rfl⟩ := Option.isSome_iff_exists.1 hc1
 replace hH := hH.row_eq 4 (l' := (ts ++ [t1]).length) (xs' := rowC tvC (ts ++ [t1])) rfl (rfl) (rfl)
 have hle3 : l7.length + 1 ≤ lN.length := hle14
 refine Sk <| sw_block <| sw_skip <| bkN <| rnd_end (g := (ts, lN, AN, cN, pN, xN, j)) (ts ++ [t1], l7, A8, c9, pl10, x11, j - 1) (by kernel_rfl) ?_ ?_
 replace hH := hH.fr5.fr5.fr3.fr5.fr5
 replace hH := (hH.sb (slk (slk (slk (slk (slk sln)))))).n5
 · exact ⟨(by rw [hm, parts_some (n := t1.nd) hR12, show j - 1 + 1 = j from by omega, List.map_append]; rfl), by omega, by omega, hTL13, (by rw [List.length_append]; show ts.length + 1 + _ ≤ _; omega), hpN.trans hpz15, (hoN.mono hpz15).add (hok16 t1 (List.mem_singleton.2 rfl)), (fun h => by simp at h), hT17, hH⟩
 · show l7.length < lN.length; omega
 obtain rfl : o6 = none := by
   cases o6 with
   | none => rfl
   | some y => cases hc1
 replace hH := hH.row_eq 4 (l' := ts.length) (xs' := rowC tvC ts) rfl (by simp) (by simp)
 obtain rfl := hx18 rfl
 have hfin : partsF4 k deep [] l = .ok (ts.map Tv.nd, l7) := hm.trans (parts_none hR12)
 have hle3 : l7.length ≤ lN.length := hle14
 have hp7 := hTL13.pos
 obtain ⟨A21, c22, rfl, hl23, hm24⟩ := hH.row_form 4 rfl
 refine sw_exit <| thX <| thX <| bkH <| sw_next <| sw_seq <| sw_sr <| Gq rfl (Lk 3 hH rfl rfl rfl) <| Gq rfl (rd_snil_eql (e := 41) (by kernel_rfl) rfl rfl) <| Dn <| If rfl (fun hc2 => ?_) (fun hc2 => ?_)
 obtain rfl := List.eq_nil_of_length_eq_zero (row_isNone (hH.row_reads 4 rfl) hc2)
 refine sw_sr <| Go1 3 10 (Pp g 0) <| Gq rfl (Lk 1 hH rfl rfl rfl) ?_
 obtain ⟨p25, hi27, hp26⟩ := hT17.idx 0 (by omega) (by decide)
 refine Gq rfl (Ix (e := 131) 7 rfl rfl hi27) <| Go1 1 13 (.pointer (some (p25.add 6))) <| Gq rfl (rd_load (by kernel_rfl) rfl (hH.zin _ _ (hp26 6 _ (by decide) (rowC_at tkC_len (hd_at hTL13.pos) 6 (by decide) rfl)))) <| Go1 1 15 (.agg #[.int .i64 1, .string (bs []), .int .u64 0, .int .u64 0, .int .u64 0, .int .u64 0, .slice none 0 0, Ni ((hdT l7).pos)]) <| gl_st (Ka 0 [.int .i64 1, .string (bs []), .int .u64 0, .int .u64 0, .int .u64 0, .int .u64 0, .slice none 0 0, Ni ((hdT l7).pos)] [.int .i64 1, .string (bs []), .int .u64 0, .int .u64 0, .int .u64 0, .int .u64 0, .slice none 0 0, Ni ((hdT l7).pos)] rfl hH rfl rfl ?_)
 clear hH; intro w28 hH
 refine Dn <| sw_ret <| thR <| retPC1 rfl (RS.cellA hH 0 (by kernel_rfl) rfl rfl (by kernel_rfl) [.int .i64 1, .string (bs []), .int .u64 0, .int .u64 0, .int .u64 0, .int .u64 0, .slice none 0 0, Ni ((hdT l7).pos)] rfl rfl) ?_
 replace hH := hH.fr3.fr3
 replace hH := (hH.sb (slk (slk sln))).n2
 exact ⟨Tv.leaf 1 [] Cl.zero (hdT l7).pos, l7, A8, c9, pl10, row_none hfin, rfl, hTL13, (by omega), hpN.trans hpz15, TvOk.leaf Cl.zero_ok (Nat.zero_le _) (by decide) (pos_i64 hTL13), hT17, hH.turned⟩
 have hp : 0 < ts.length := by
   rcases Nat.eq_zero_or_pos ts.length with h0 | h0
   · have h1 := hxN (List.eq_nil_of_length_eq_zero h0); simp only [Value.slice.injEq] at h1; rw [h1.1] at hc2; cases hc2
   · exact h0
 refine Sk <| sw_sr <| Gq rfl (Lk 3 hH rfl rfl rfl) <| gl_st (Sc rfl rfl (YJoin_ct 6 c22 A21 ts _ (hH.row_reads 4 rfl) hp) ?_)
 rintro _ w29 ⟨rfl, hF30⟩
 replace hH := hH.call hF30
 refine gl_st (Ka 0 [.int .i64 ((joinT 6 A21 c22 ts).kind), .string (bs ((joinT 6 A21 c22 ts).text)), .int .u64 (((joinT 6 A21 c22 ts).cl.a : Nat) : Int), .int .u64 (((joinT 6 A21 c22 ts).cl.b : Nat) : Int), .int .u64 (((joinT 6 A21 c22 ts).cl.c : Nat) : Int), .int .u64 (((joinT 6 A21 c22 ts).cl.d : Nat) : Int), .slice ((joinT 6 A21 c22 ts).A) ((joinT 6 A21 c22 ts).subs.length) ((joinT 6 A21 c22 ts).cap), .int .i64 ((joinT 6 A21 c22 ts).pos)] [.int .i64 ((joinT 6 A21 c22 ts).kind), .string (bs ((joinT 6 A21 c22 ts).text)), .int .u64 (((joinT 6 A21 c22 ts).cl.a : Nat) : Int), .int .u64 (((joinT 6 A21 c22 ts).cl.b : Nat) : Int), .int .u64 (((joinT 6 A21 c22 ts).cl.c : Nat) : Int), .int .u64 (((joinT 6 A21 c22 ts).cl.d : Nat) : Int), .slice ((joinT 6 A21 c22 ts).A) ((joinT 6 A21 c22 ts).subs.length) ((joinT 6 A21 c22 ts).cap), .int .i64 ((joinT 6 A21 c22 ts).pos)] rfl hH rfl rfl ?_)
 clear hH; intro w31 hH
 refine Dn <| sw_ret <| retPC1 rfl (RS.cellA hH 0 (by kernel_rfl) rfl rfl (by kernel_rfl) [.int .i64 ((joinT 6 A21 c22 ts).kind), .string (bs ((joinT 6 A21 c22 ts).text)), .int .u64 (((joinT 6 A21 c22 ts).cl.a : Nat) : Int), .int .u64 (((joinT 6 A21 c22 ts).cl.b : Nat) : Int), .int .u64 (((joinT 6 A21 c22 ts).cl.c : Nat) : Int), .int .u64 (((joinT 6 A21 c22 ts).cl.d : Nat) : Int), .slice ((joinT 6 A21 c22 ts).A) ((joinT 6 A21 c22 ts).subs.length) ((joinT 6 A21 c22 ts).cap), .int .i64 ((joinT 6 A21 c22 ts).pos)] rfl rfl) ?_
 replace hH := hH.fr3.fr5
 obtain ⟨pl32, hp33, hH⟩ := pl_add hH
 replace hH := hH.fr3
 replace hH := (hH.sb (slk (slk sln))).n2
 exact ⟨joinT 6 A21 c22 ts, l7, A8, c9, pl10 ++ pl32, (by rw [row_some hfin (by simpa using hp), joinT_nd]), rfl, hTL13, (by omega), (hpN.trans hpz15).trans (pz_app _ _), joinT_ok (by decide) hp33 ((hoN.mono hpz15).mono (pz_app _ _)), hT17, hH.turned⟩
theorem YChoice_ct (k : Nat) (IH : ∀ j, j ≤ k → RdC 106 rowF4 7 0 j) : RdC 62 choiceF 8 0 (k + 1) := by
 intro g cap deep A l pl c w hk hd hT0 hd1 hc hM hT
 have hpos := hT0.pos
 have hT0le := hT0.le
 refine funP_of_sw Tryz.func62 rfl 19 rfl rfl ?_
 have hH := (Hp.start_mine hM).zsub hc
 refine sw_sr <| gl_st (Alc [.int .i64 0, .string (bs []), .int .u64 0, .int .u64 0, .int .u64 0, .int .u64 0, .slice none 0 0, .int .i64 0] rfl hH ?_)
 clear hH; intro b1 w2 hH
 refine Dn <| sw_sr <| Go1 1 4 (Pp g 0) ?_
 replace hH : Hp w w2 _ _ ([_, _] ++ [_]) := hH
 refine gl_st (Sp rfl rfl (IH k (Nat.le_refl _) g cap deep A l pl c _ (by omega) hd hT0 (fun h => by cases h) hH.zoff hH.mine hT) ?_ ((fun _ _ h => h.up hH (fun er he => choice_err he))))
 rintro _ w14 ⟨t3, l4, A5, c6, pl7, hR8, rfl, hTL9, hle10, hpz11, htk12, hT13, hF15⟩
 replace hH := hH.turns hF15
 replace hH := hH.n3
 refine gl_st (st_buildS (e := 41) (zv := .agg #[.int .i64 0, .string (bs []), .int .u64 0, .int .u64 0, .int .u64 0, .int .u64 0, .slice none 0 0, .int .i64 0]) (m := 8) (bytes := 88) rfl rfl rfl (by kernel_rfl) (by kernel_rfl) rfl (cs := [.int .i64 t3.kind, .string (bs t3.text), .int .u64 ((t3.cl.a : Nat) : Int), .int .u64 ((t3.cl.b : Nat) : Int), .int .u64 ((t3.cl.c : Nat) : Int), .int .u64 ((t3.cl.d : Nat) : Int), .slice t3.A t3.subs.length t3.cap, .int .i64 t3.pos]) (by kernel_rfl) rfl hH ?_)
 clear hH; intro b16 w17 hH
 refine Go1 1 3 (.slice (some ⟨b16, 0, none⟩) 1 1) <| Dn <| sw_seq <| sw_block ?_
 replace hH := hH.row_eq 3 (l' := 1) (xs' := rowC tvC [t3]) rfl (rfl) (rfl)
 replace hH := hH.fr4.fr2.fr4.fr4
 replace hH := (hH.sb (slk (slk (slk (slk sln))))).n4
 refine Lp (γ := List Tv × List Tk × Option Addr × Nat × Pl × Value × Nat) hH (fun (ts, lN, AN, cN, pN, xN, j) => [(0, Pp g 0), (2, Pp b1 0), (3, xN)]) (fun (ts, lN, AN, cN, pN, xN, j) w_ H_ => (choiceF (k + 1) deep l = altF (j + 1) deep (ts.map Tv.nd) lN) ∧ (8 * lN.length ≤ j) ∧ (j + 1 ≤ k) ∧ (TL lN) ∧ (1 ≤ ts.length) ∧ (ts.length + lN.length ≤ l.length + 1) ∧ ((pz pl).le (pz pN)) ∧ (TvsOk (pz pN) ts) ∧ (Row c (.slice AN lN.length cN) 7 lN.length (rowC tkC lN)) ∧ H_ [.blk g 129 [.slice AN lN.length cN, Ni deep], plO pN, .blk b1 41 [.int .i64 0, .string (bs []), .int .u64 0, .int .u64 0, .int .u64 0, .int .u64 0, .slice none 0 0, .int .i64 0], .row xN 41 8 ts.length (rowC tvC ts)]) (fun (ts, lN, AN, cN, pN, xN, j) => lN.length) ([t3], l4, A5, c6, pl7, (.slice (some ⟨b16, 0, none⟩) 1 1), k - 1) ?_ ?_
 · exact ⟨(by rw [choice_ok hR8, show k - 1 + 1 = k from by omega]; rfl), by omega, by omega, hTL9, Nat.le_refl _, (by show 1 + _ ≤ _; omega), hpz11, TvsOk.one htk12, hT13, hH⟩
 clear hH
 rintro ⟨ts, lN, AN, cN, pN, xN, j⟩ w18 ⟨hm, hj, hj2, hTN, ht1, hlN, hpN, hoN, hrN, hH⟩
 refine swk [(0, Pp g 0), (2, Pp b1 0), (3, xN)] <| sw_seq <| sw_sr <| Go1 1 7 (Pp g 0) <| gl_st (Sc rfl rfl (YSign_ct g cN AN lN _ (hH.blk_cell 0 rfl rfl) (hrN.mono hH.zin) hTN.pos) ?_)
 rintro _ w19 ⟨rfl, hF20⟩
 replace hH := hH.call hF20
 refine Gq rfl (rd_seql (by kernel_rfl) rfl rfl) <| Dn <| If rfl (fun hc1 => ?_) (fun hc1 => ?_)
 have hs : sgF4 lN = [47] := hc1
 have h6 : (hdT lN).kind ≠ 6 := by have := sg_kind hs; omega
 have htl : lN.tail.length = lN.length - 1 := List.length_tail
 have hpN0 := hTN.pos
 refine Sk <| sw_block <| sw_sr <| Go1 1 10 (Pp g 0) ?_
 replace hH : Hp w w19 _ _ ([_] ++ [_, _, _]) := hH
 refine gl_st (Sc rfl rfl (YNext_ct g cN deep AN lN c _ hH.zoff hH.mine hrN hTN.pos) ?_)
 rintro _ w24 ⟨A21, c22, rfl, hT23, hF25⟩
 replace hH := hH.turns hF25
 replace hH := hH.n4
 refine Dn <| sw_region <| Go2 2 12 xN 13 (Pp g 0) ?_
 replace hH : Hp w w24 _ _ ([_, _] ++ [_, _]) := hH.fr4
 refine gl_st (Sp rfl rfl (IH j (by omega) g c22 deep A21 lN.tail pN c _ (by omega) hd (hTN.tail h6) (fun h => by cases h) hH.zoff hH.mine hT23) ?_ ((fun _ _ h => h.up hH (fun er he => hm.trans (alt_err hs he)))))
 rintro _ w37 ⟨t26, l27, A28, c29, pl30, hR31, rfl, hTL32, hle33, hpz34, htk35, hT36, hF38⟩
 replace hH := hH.turns hF38
 replace hH := hH.n4
 refine gl_st (st_buildS (e := 41) (zv := .agg #[.int .i64 0, .string (bs []), .int .u64 0, .int .u64 0, .int .u64 0, .int .u64 0, .slice none 0 0, .int .i64 0]) (m := 8) (bytes := 88) rfl rfl rfl (by kernel_rfl) (by kernel_rfl) rfl (cs := [.int .i64 t26.kind, .string (bs t26.text), .int .u64 ((t26.cl.a : Nat) : Int), .int .u64 ((t26.cl.b : Nat) : Int), .int .u64 ((t26.cl.c : Nat) : Int), .int .u64 ((t26.cl.d : Nat) : Int), .slice t26.A t26.subs.length t26.cap, .int .i64 t26.pos]) (by kernel_rfl) rfl hH ?_)
 clear hH; intro b39 w40 hH
 refine gl_st (Apd (e := 41) (.agg #[.int .i64 0, .string (bs []), .int .u64 0, .int .u64 0, .int .u64 0, .int .u64 0, .slice none 0 0, .int .i64 0]) 8 88 1 rfl hH rfl rfl rfl (hH.row_reads 4 rfl) (by simp [Value.oneCell']) (by unfold maxLen; omega) (by omega) ?_)
 clear hH; intro v41 w42 hH
 replace hH := hH.row_eq 1 (l' := (ts ++ [t26]).length) (xs' := rowC tvC (ts ++ [t26])) rfl (by simp) (by rw [← rowC_app, rowC_one]; rfl)
 obtain ⟨A43, c44, rfl, hl45, hm46⟩ := hH.row_form 1 rfl
 refine Go1 1 3 (.slice A43 ((ts ++ [t26]).length) c44) <| Dd <| bkN <| rnd_end (g := (ts, lN, AN, cN, pN, xN, j)) (ts ++ [t26], l27, A28, c29, pl30, (.slice A43 ((ts ++ [t26]).length) c44), j - 1) (by kernel_rfl) ?_ ?_
 replace hH := hH.fr2.fr2.fr4.fr4
 replace hH := (hH.sb (slk (slk (slk (slk sln))))).n4
 · exact ⟨(by rw [hm, alt_more hs hR31, show j - 1 + 1 = j from by omega, List.map_append]; rfl), by omega, by omega, hTL32, (by simp), (by rw [List.length_append]; show ts.length + 1 + _ ≤ _; omega), hpN.trans hpz34, (hoN.mono hpz34).add htk35, hT36, hH⟩
 · show l27.length < lN.length; omega
 have hs : ¬ sgF4 lN = [47] := hc1
 obtain ⟨A47, c48, rfl, hl49, hm50⟩ := hH.row_form 3 rfl
 have hp : 0 < ts.length := ht1
 refine sw_exit <| thX <| thX <| bkH <| sw_next <| sw_sr <| Go1 1 17 (.slice A47 ts.length c48) <| gl_st (Sc rfl rfl (YJoin_ct 7 c48 A47 ts _ (hH.row_reads 3 rfl) hp) ?_)
 rintro _ w51 ⟨rfl, hF52⟩
 replace hH := hH.call hF52
 refine gl_st (Ka 2 [.int .i64 ((joinT 7 A47 c48 ts).kind), .string (bs ((joinT 7 A47 c48 ts).text)), .int .u64 (((joinT 7 A47 c48 ts).cl.a : Nat) : Int), .int .u64 (((joinT 7 A47 c48 ts).cl.b : Nat) : Int), .int .u64 (((joinT 7 A47 c48 ts).cl.c : Nat) : Int), .int .u64 (((joinT 7 A47 c48 ts).cl.d : Nat) : Int), .slice ((joinT 7 A47 c48 ts).A) ((joinT 7 A47 c48 ts).subs.length) ((joinT 7 A47 c48 ts).cap), .int .i64 ((joinT 7 A47 c48 ts).pos)] [.int .i64 ((joinT 7 A47 c48 ts).kind), .string (bs ((joinT 7 A47 c48 ts).text)), .int .u64 (((joinT 7 A47 c48 ts).cl.a : Nat) : Int), .int .u64 (((joinT 7 A47 c48 ts).cl.b : Nat) : Int), .int .u64 (((joinT 7 A47 c48 ts).cl.c : Nat) : Int), .int .u64 (((joinT 7 A47 c48 ts).cl.d : Nat) : Int), .slice ((joinT 7 A47 c48 ts).A) ((joinT 7 A47 c48 ts).subs.length) ((joinT 7 A47 c48 ts).cap), .int .i64 ((joinT 7 A47 c48 ts).pos)] rfl hH rfl rfl ?_)
 clear hH; intro w53 hH
 refine Dn <| sw_ret <| retPC1 rfl (RS.cellA hH 2 (by kernel_rfl) rfl rfl (by kernel_rfl) [.int .i64 ((joinT 7 A47 c48 ts).kind), .string (bs ((joinT 7 A47 c48 ts).text)), .int .u64 (((joinT 7 A47 c48 ts).cl.a : Nat) : Int), .int .u64 (((joinT 7 A47 c48 ts).cl.b : Nat) : Int), .int .u64 (((joinT 7 A47 c48 ts).cl.c : Nat) : Int), .int .u64 (((joinT 7 A47 c48 ts).cl.d : Nat) : Int), .slice ((joinT 7 A47 c48 ts).A) ((joinT 7 A47 c48 ts).subs.length) ((joinT 7 A47 c48 ts).cap), .int .i64 ((joinT 7 A47 c48 ts).pos)] rfl rfl) ?_
 replace hH := hH.fr2.fr4
 obtain ⟨pl54, hp55, hH⟩ := pl_add hH
 replace hH := hH.fr2
 replace hH := (hH.sb (slk (slk sln))).n2
 exact ⟨joinT 7 A47 c48 ts, lN, AN, cN, pN ++ pl54, (by rw [hm, alt_end hs, joinT_nd]), rfl, hTN, (by omega), hpN.trans (pz_app _ _), joinT_ok (by decide) hp55 (hoN.mono (pz_app _ _)), hrN, hH.turned⟩
theorem YAll (k : Nat) : (∀ j, j ≤ k → RdC 62 choiceF 8 0 j) ∧ (∀ j, j ≤ k → RdC 106 rowF4 7 0 j) ∧ (∀ j, j ≤ k → PaC j) ∧ (∀ j, j ≤ k → OnC j) ∧ (∀ j, j ≤ k → RdC 199 withinF 3 1 j) := by
  induction k with
  | zero =>
    refine ⟨fun j hj => ?_, fun j hj => ?_, fun j hj => ?_, fun j hj => ?_, fun j hj => ?_⟩
    all_goals intro g cap deep A l
    · intro pl c w hk; omega
    · intro pl c w hk; omega
    · intro pl b x ts c w hk; omega
    · intro pl c w hk; omega
    · intro pl c w hk; omega
  | succ k ih =>
    obtain ⟨h1, h2, h3, h4, h5⟩ := ih
    refine ⟨fun j hj => ?_, fun j hj => ?_, fun j hj => ?_, fun j hj => ?_, fun j hj => ?_⟩
    all_goals rcases Nat.lt_or_ge j (k + 1) with h | h
    · exact h1 j (by omega)
    · obtain rfl : j = k + 1 := by omega
      exact YChoice_ct k h2
    · exact h2 j (by omega)
    · obtain rfl : j = k + 1 := by omega
      exact YRow_ct k h3
    · exact h3 j (by omega)
    · obtain rfl : j = k + 1 := by omega
      exact YPart_ct k (h4 k (Nat.le_refl _))
    · exact h4 j (by omega)
    · obtain rfl : j = k + 1 := by omega
      exact YOne_ct k (h5 k (Nat.le_refl _))
    · exact h5 j (by omega)
    · obtain rfl : j = k + 1 := by omega
      exact YWithin_ct k (h1 k (Nat.le_refl _))
theorem YChoice (k : Nat) : RdC 62 choiceF 8 0 k := (YAll k).1 k (Nat.le_refl _)

end Go.Proofs.YtllfpnbhjfadiaaGreatDoor
/- Layer 4 (syntax): grammars: rules read, their rows. Plain theorems. -/
set_option linter.unusedVariables false
namespace Go.Proofs.YtllfpnbhjfadiaaGreatDoor
open Go.RowKit Go.SW
/-- A rule with its tree's slices. -/
structure Rv where
  name : List UInt8
  body : Tv
  pos : Int
def Rv.rl (r : Rv) : Rl := ⟨r.name, r.body.nd, r.pos⟩
def rvC (r : Rv) : List Value := [.string (bs r.name), .int .i64 r.body.kind, .string (bs r.body.text), .int .u64 ((r.body.cl.a : Nat) : Int), .int .u64 ((r.body.cl.b : Nat) : Int), .int .u64 ((r.body.cl.c : Nat) : Int), .int .u64 ((r.body.cl.d : Nat) : Int), .slice r.body.A r.body.subs.length r.body.cap, .int .i64 r.body.pos, .int .i64 r.pos]
theorem rvC_len (r : Rv) : (rvC r).length = 10 := rfl
structure RvOk (c : Zone) (r : Rv) : Prop where
  body : TvOk c r.body
  name : r.name.length ≤ 140737488355328
  pos : -9223372036854775808 ≤ r.pos ∧ r.pos ≤ 9223372036854775807
theorem RvOk.mono {c c' : Zone} {r : Rv} (h : RvOk c r) (hc : c.le c') : RvOk c' r := ⟨h.body.mono hc, h.name, h.pos⟩
def RvsOk (c : Zone) (rs : List Rv) : Prop := ∀ r ∈ rs, RvOk c r
theorem RvsOk.mono {c c' : Zone} {rs : List Rv} (h : RvsOk c rs) (hc : c.le c') : RvsOk c' rs := fun r hr => (h r hr).mono hc
theorem RvsOk.add {c : Zone} {rs : List Rv} {r : Rv} (h : RvsOk c rs) (hr : RvOk c r) : RvsOk c (rs ++ [r]) := fun x hx => by
  rcases List.mem_append.1 hx with hx | hx
  · exact h x hx
  · obtain rfl := List.mem_singleton.1 hx; exact hr
section
variable {F k : Nat} {acc : List Rl} {l l3 : List Tk} {n : Nd} {er : Er}
theorem rules_done (h : acc.length ≠ 0 ∧ (hdT l).kind = 6) : rulesF F (k + 1) acc l = .ok acc := by rw [rulesF, if_pos h]
theorem rules_long (h : ¬ (acc.length ≠ 0 ∧ (hdT l).kind = 6)) (h2 : acc.length = 64 ∧ (hdT l).kind = 1) : rulesF F (k + 1) acc l = .error (stopF 2 l) := by rw [rulesF, if_neg h, if_pos h2]
theorem rules_must1 (h : ¬ (acc.length ≠ 0 ∧ (hdT l).kind = 6)) (h2 : ¬ (acc.length = 64 ∧ (hdT l).kind = 1)) (h3 : ¬ (hdT l).kind = 1) : rulesF F (k + 1) acc l = .error (wrongF l) := by rw [rulesF, if_neg h, if_neg h2, mustF, if_neg h3]; rfl
theorem rules_must2 (h : ¬ (acc.length ≠ 0 ∧ (hdT l).kind = 6)) (h2 : ¬ (acc.length = 64 ∧ (hdT l).kind = 1)) (h3 : (hdT l).kind = 1) (h4 : ¬ (hdT l.tail).kind = 2) : rulesF F (k + 1) acc l = .error (wrongF l.tail) := by
  rw [rulesF, if_neg h, if_neg h2, mustF, if_pos h3]
  show (mustF 2 l.tail).bind _ = _
  rw [mustF, if_neg h4]; rfl
theorem rules_err (h : ¬ (acc.length ≠ 0 ∧ (hdT l).kind = 6)) (h2 : ¬ (acc.length = 64 ∧ (hdT l).kind = 1)) (h3 : (hdT l).kind = 1) (h4 : (hdT l.tail).kind = 2) (hc : choiceF F 0 l.tail.tail = .error er) : rulesF F (k + 1) acc l = .error er := by
  rw [rulesF, if_neg h, if_neg h2, mustF, if_pos h3]
  show (mustF 2 l.tail).bind _ = _
  rw [mustF, if_pos h4]
  show (choiceF F 0 l.tail.tail).bind _ = _
  rw [hc]; rfl
theorem rules_next (h : ¬ (acc.length ≠ 0 ∧ (hdT l).kind = 6)) (h2 : ¬ (acc.length = 64 ∧ (hdT l).kind = 1)) (h3 : (hdT l).kind = 1) (h4 : (hdT l.tail).kind = 2) (hc : choiceF F 0 l.tail.tail = .ok (n, l3)) : rulesF F (k + 1) acc l = rulesF F k (acc ++ [⟨(hdT l).text, n, (hdT l).pos⟩]) l3 := by
  rw [rulesF, if_neg h, if_neg h2, mustF, if_pos h3]
  show (mustF 2 l.tail).bind _ = _
  rw [mustF, if_pos h4]
  show (choiceF F 0 l.tail.tail).bind _ = _
  rw [hc]; rfl
end
theorem parse_ok {s : List UInt8} {l : List Tk} (h : tokensF s = .ok l) : parseF s = rulesF (8 * l.length + 8) (l.length + 1) [] l := by unfold parseF; rw [h]; rfl
theorem parse_err {s : List UInt8} {er : Er} (h : tokensF s = .error er) : parseF s = .error er := by unfold parseF; rw [h]; rfl
theorem tokens_TL {s : List UInt8} {l : List Tk} (h : tokensF s = .ok l) (h1 : l.length ≤ 8193) (h2 : TksOk l) : TL l := by
  refine ⟨?_, h2, h1⟩
  unfold tokensF at h
  split at h
  · cases h
  split at h
  · cases h
  · cases h; exact toksF_ends _ _ _ _ _ ‹_›
theorem Hp.frozen {w0 w : World} {z : Zone} {F : List Nat} {os : List Own} {v : Value} {e : TypeId} {m n : Nat} {xs : List Value} (h : Hp w0 w z F (.row v e m n xs :: os)) : ∃ c, Row c v m n xs ∧ Hp w0 w c F os := by
  refine ⟨off w (blksOf os), ?_, h.freeze (List.sublist_cons_self _ _)⟩
  have hr : w.ownsRow 0 e m v n xs := h.own _ List.mem_cons_self
  rcases hr.2 with ⟨rfl, rfl⟩ | ⟨g, cap, cur, rfl, hb, hg, hn, hm, hs, ht⟩
  · have : xs = [] := List.eq_nil_of_length_eq_zero (by simpa using hr.1)
    subst this
    exact Row.nil _ _
  · have hnot : g ∉ blksOf os := fun hk => (List.nodup_append.1 (show ([g] ++ blksOf os).Nodup from h.nodup)).2.2 g (List.mem_singleton.2 rfl) g hk rfl
    refine (Row.of_own hr).on fun a ha u hu => ?_
    unfold off
    rw [if_neg (by rw [ha]; exact hnot)]
    exact hu
def gramV (A : Option Addr) (n cap : Nat) : Value := .agg #[.slice A n cap]
def GrOk (R : Except Er (List Rl)) (A : Option Addr) (cap : Nat) (rs : List Rv) (pl : Pl) : Prop :=
  (∃ er, R = .error er ∧ rs = []) ∨ (R = .ok (rs.map Rv.rl) ∧ rs.length ≤ 64 ∧ Row (pz pl) (.slice A rs.length cap) 10 rs.length (rowC rvC rs) ∧ RvsOk (pz pl) rs)
def PrPost (R : Except Er (List Rl)) (w : World) (v : Value) (w' : World) : Prop :=
  ∃ A cap rs fb pl, v = .tuple #[gramV A rs.length cap, fltV (erT R) fb] ∧ GrOk R A cap rs pl ∧ Fresh w w' [plO pl, fltO (erT R) fb]
theorem pr_err {R : Except Er (List Rl)} {er : Er} {fb : Nat} {w w' : World} {z : Zone} (hR : R = .error er) (h : Hp w w' z [] [fltB er fb]) : PrPost R w (.tuple #[.agg #[.slice none 0 0], .iface 94 (.pointer (some ⟨fb, 0, none⟩))]) w' := by
  subst hR
  have h2 : Hp w w' z [] (fltO (some (er.1, er.2)) fb :: []) := flt_some h
  have h3 : Hp w w' z [] ([fltO (some er) fb] ++ [plO []]) := Hp.pool h2
  exact ⟨none, 0, [], fb, [], rfl, .inl ⟨er, rfl, rfl⟩, (Hp.fr2 h3).fresh⟩
theorem pr_lex {R : Except Er (List Rl)} {er : Er} {fb : Nat} {w w' : World} {z : Zone} (hR : R = .error er) (h : Hp w w' z [] [fltO (some er) fb]) : PrPost R w (.tuple #[.agg #[.slice none 0 0], fltV (some er) fb]) w' := by
  subst hR
  have h3 : Hp w w' z [] ([fltO (some er) fb] ++ [plO []]) := Hp.pool h
  exact ⟨none, 0, [], fb, [], rfl, .inl ⟨er, rfl, rfl⟩, (Hp.fr2 h3).fresh⟩
theorem pr_ok {R : Except Er (List Rl)} {A : Option Addr} {cap : Nat} {rs : List Rv} {pl : Pl} {w w' : World} {z : Zone} (hR : R = .ok (rs.map Rv.rl)) (h1 : rs.length ≤ 64) (h2 : Row (pz pl) (.slice A rs.length cap) 10 rs.length (rowC rvC rs)) (h3 : RvsOk (pz pl) rs) (h : Hp w w' z [] [plO pl]) : PrPost R w (.tuple #[.agg #[.slice A rs.length cap], .nilIface]) w' := by
  subst hR
  have h4 : Hp w w' z [] (fltO none 0 :: plO pl :: []) := flt_none 0 h
  exact ⟨A, cap, rs, 0, pl, rfl, .inr ⟨rfl, h1, h2, h3⟩, (Hp.fr2 h4).fresh⟩
end Go.Proofs.YtllfpnbhjfadiaaGreatDoor
/- Layer 4 (syntax): Parse: what the program's function answers. -/
set_option maxRecDepth 100000
set_option maxHeartbeats 2000000
set_option linter.unusedVariables false
set_option linter.unusedSimpArgs false
namespace Go.Proofs.YtllfpnbhjfadiaaGreatDoor
open Go.RowKit Go.SW

theorem YRec0 (gb eb : Nat) (w : World) :
    CallsD Tryz.prog 59 ([Pp gb 0, Pp eb 0] : List Value).toArray .returning w fun e u2 w' => u2 = .returning ∧ ∃ v, e = .returned v ∧ w' = w := by
 refine recD (Post := fun _ w9 => w9 = w) Tryz.func59 rfl 14 rfl rfl rfl (u' := .returning) (x := .nilIface) (fun c cs hc => .inr ⟨by simp [recoverD, hc], rfl, rfl⟩) ?_
 
 refine sw_block <| sw_sr <| Go1 1 7 (.bool true) <| Dn <| It <| sw_region <| Go0 1 <| Dd <| bkN <| end0 rfl ?_
 rfl
theorem YRec1 (gb eb fb : Nat) (x y : Value) (w : World) (hM : Mine w [.blk gb 24 [x], .blk eb 32 [y]]) :
    CallsD Tryz.prog 59 ([Pp gb 0, Pp eb 0] : List Value).toArray (.panicking (fltP fb)) w fun e u2 w' => u2 = .panicking [{ v := .iface 94 (.pointer (some ⟨fb, 0, none⟩)), recovered := true }] ∧ ∃ v, e = .returned v ∧ Turn w w' [.blk gb 24 [x], .blk eb 32 [y]] [.blk gb 24 [.slice none 0 0], .blk eb 32 [.iface 94 (.pointer (some ⟨fb, 0, none⟩))]] := by
 refine recD (Post := fun _ w9 => Turn w w9 [.blk gb 24 [x], .blk eb 32 [y]] [.blk gb 24 [.slice none 0 0], .blk eb 32 [.iface 94 (.pointer (some ⟨fb, 0, none⟩))]]) Tryz.func59 rfl 14 rfl rfl rfl (u' := .panicking [{ v := .iface 94 (.pointer (some ⟨fb, 0, none⟩)), recovered := true }]) (x := .iface 94 (.pointer (some ⟨fb, 0, none⟩))) (fun c cs hc => .inl (by simp [recoverD, hc])) ?_
 have hH := Hp.start_mine hM
 refine sw_block <| sw_sr <| Go1 1 7 (.bool false) <| Dn <| Iz <| sw_sr <| Gq rfl (show Runs _ _ _ (.tuple #[.pointer (some ⟨fb, 0, none⟩), .bool true]) _ from by unfold Runs; kernel_rfl) <| Go2 2 9 (.bool true) 10 (.pointer (some ⟨fb, 0, none⟩)) <| Dn <| It <| sw_sr <| Go1 1 3 (.pointer (some ⟨fb, 0, none⟩)) <| Dn <| sw_region <| Go2 3 11 (.agg #[.slice none 0 0]) 13 (.iface 94 (.pointer (some ⟨fb, 0, none⟩))) <| gl_st (Ka 0 [.slice none 0 0] [.slice none 0 0] rfl hH rfl rfl ?_)
 clear hH; intro w1 hH
 refine gl_st (Ks 1 (.iface 94 (.pointer (some ⟨fb, 0, none⟩))) rfl hH rfl rfl ?_)
 clear hH; intro w2 hH
 exact Dd <| bkN <| end0 rfl <| hH.turned
theorem fltV_one (er : Option (Nat × Int)) (fb : Nat) : (fltV er fb).oneCell' = true := by
  cases er <;> rfl
abbrev parD (gb eb : Nat) : Deferred := { target := .fn (.func 59) #[Pp gb 0, Pp eb 0], args := #[] }
instance (n : Nat) (ds : List Deferred) : RK ⟨n, ds, [2, 3]⟩ Tryz.f29 := rk2 rfl (by simp) (by simp)
theorem parInv (gb eb : Nat) (w : World) : (invoke (.fn (.func 59) #[Pp gb 0, Pp eb 0]) #[]).run Tryz.prog w = .ok (.enter 59 ([Pp gb 0, Pp eb 0] : List Value).toArray) w := by kernel_rfl
theorem prRet {n : Sh} {fr : Fr} {gb eb : Nat} {v : Value} {R : Ending → World → Prop} {w : World} (hn : n.ds = [parD gb eb]) (hres : ∀ a, Fits n fr a → (results Tryz.f29 a.tmps).run Tryz.prog w = .ok v w) (hR : R (.returned v) w) : ∀ a, Fits n fr a → Leaves Tryz.prog Tryz.f29 a.tmps R n.ds .returning w := by
  intro a ha
  rw [hn]
  refine leaves_cons (by simp) (parInv gb eb w) (CallsD.mono (YRec0 gb eb w) ?_)
  rintro e u2 w' ⟨rfl, v', rfl, rfl⟩
  exact ⟨v, hres a ha, hR⟩
theorem prPan {n : Sh} {fr : Fr} {gb eb : Nat} {x y : Value} {R : Ending → World → Prop} {E : Er → Prop} {mine os : List Own} {w0 w w' : World} {z : Zone} {F : List Nat} {ch : List PanicEntry} {a : Act} (h : PanF E mine w ch w')
    (hH : Hp w0 w z F (mine ++ (.blk gb 24 [x] :: .blk eb 32 [y] :: os))) (hn : n.ds = [parD gb eb]) (hf : Fits n fr a) (h2 : gt fr 2 = some (.pointer (some ⟨gb, 0, none⟩))) (h3 : gt fr 3 = some (.pointer (some ⟨eb, 0, none⟩)))
    (hR : ∀ er fb w2, E er → Hp w0 w2 z F [fltB er fb] → R (.returned (.tuple #[.agg #[.slice none 0 0], .iface 94 (.pointer (some ⟨fb, 0, none⟩))])) w2) : Leaves Tryz.prog Tryz.f29 a.tmps R n.ds (.panicking ch) w' := by
  obtain ⟨er, fb, he, rfl, hT⟩ := h
  have h1 : Hp w0 w' z F ([.blk gb 24 [x], .blk eb 32 [y]] ++ (os ++ [fltB er fb])) := hH.turns hT
  rw [hn]
  refine leaves_cons (by simp) (parInv gb eb w') (CallsD.mono (YRec1 gb eb fb x y w' h1.mine) ?_)
  rintro e u2 w2 ⟨rfl, v', rfl, hT2⟩
  have h4 := h1.turns hT2
  have h5 := h4.perm List.perm_append_comm
  refine ⟨_, cells2 rfl (RS.cellA h5 0 (by kernel_rfl) h2 rfl (by kernel_rfl) [.slice none 0 0] rfl rfl) (RS.cell h5 1 (by kernel_rfl) h3 rfl rfl) hf, hR er fb w2 he ?_⟩
  exact h4.sublist ((List.sublist_append_right os _).trans (List.sublist_append_left _ _))

theorem YParse_ct (s : List UInt8) (w : World) (hg0 : w.cell? ⟨0, 0, none⟩ = some errTy) (hs : s.length ≤ 140737488355328) :
    Fun Tryz.prog 29 [.string (bs s)] w fun v w' => PrPost (parseF s) w v w' := by
 refine callsD_of_sw Tryz.func29 rfl 67 rfl rfl ?_
 have hH := Hp.start w
 refine sw_sr <| gl_st (Alc [.slice none 0 0] rfl hH ?_)
 clear hH; intro b1 w2 hH
 refine gl_st (Alc [.nilIface] rfl hH ?_)
 clear hH; intro b3 w4 hH
 refine Dn <| sw_ks [2, 3] <| sw_sr <| Go1 1 8 (.string (bs s)) <| gl_st (Sc rfl rfl (LTokens_ct s _ (hH.zin _ _ hg0) hs) ?_)
 rintro _ w8 ⟨v5, fb6, rfl, hv7, hF9⟩
 replace hH := hH.call hF9
 refine Go2 4 4 v5 11 (fltV (erT (tokensF s)) fb6) <| gl_st (Ks 1 (fltV (erT (tokensF s)) fb6) rfl hH rfl rfl (hv := (fltV_one _ _)) ?_)
 clear hH; intro w10 hH
 refine Dn <| sw_seq <| sw_sr <| Gq rfl (Lk 1 hH rfl rfl rfl) <| Gq rfl (rd_if_ne (by kernel_rfl) rfl) <| Dn <| If rfl (fun hc1 => ?_) (fun hc1 => ?_)
 obtain ⟨er, hR⟩ := hv7.resolve_right (fun h => by obtain ⟨_, h, _⟩ := h; rw [h] at hc1; cases hc1)
 refine sw_seq <| Dr hH (slc (slc (slk (slk sln)))) ?_
 clear hH; intro w11 hH hS9
 refine Gp1 1 [0] 14 (.agg #[.slice none 0 0]) hS9 <| gd_st2 1 2 (by kernel_rfl) ?_ ?_
 refine st_q rfl rfl rfl (Lk 1 hH rfl rfl rfl) <| Nl hS9 fun hS9 => gdk [(2, Pp b1 0), (3, Pp b3 0), (14, .agg #[.slice none 0 0]), (15, fltV (erT (tokensF s)) fb6)] <| gds 2 (Ka 0 [.slice none 0 0] [.slice none 0 0] rfl hH rfl rfl ?_)
 clear hH; intro w12 hH
 refine Nl (hH.sb (slc (slc (slk (slk sln))))) fun hS9 => gds 3 (Ks 1 (fltV (erT (tokensF s)) fb6) rfl hH rfl rfl (hv := (fltV_one _ _)) ?_)
 clear hH; intro w13 hH
 refine Nl (hH.sb (slc (slc (slk (slk sln))))) fun hS9 => gdn [(2, Pp b1 0), (3, Pp b3 0)] <| sw_next <| retD fun a ha => ⟨_, cells2 rfl (RS.cellA hH 0 (by kernel_rfl) rfl rfl (by kernel_rfl) [.slice none 0 0] rfl rfl) (RS.cell hH 1 (by kernel_rfl) rfl rfl rfl) ha, ?_⟩
 replace hH := hH.fr4
 replace hH := (hH.sb (slk sln)).n1
 rw [hR] at hH ⊢
 exact ⟨_, rfl, pr_lex (parse_err hR) hH⟩
 refine Ka 0 [.slice none 0 0] [.slice none 0 0] rfl hH rfl rfl ?_
 clear hH; intro w14 hH
 refine Nl (hH.sb (slc (slc (slk (slk sln))))) fun hS9 => gdk [(2, Pp b1 0), (3, Pp b3 0)] <| gds 1 (st_q rfl rfl rfl (Lk 1 hH rfl rfl rfl) ?_)
 refine Nl hS9 fun hS9 => gds 3 (Ks 1 (fltV (erT (tokensF s)) fb6) rfl hH rfl rfl (hv := (fltV_one _ _)) ?_)
 clear hH; intro w15 hH
 refine Nl (hH.sb (slc (slc (slk (slk sln))))) fun hS9 => gdn [(2, Pp b1 0), (3, Pp b3 0)] <| sw_next <| retD fun a ha => ⟨_, cells2 rfl (RS.cellA hH 0 (by kernel_rfl) rfl rfl (by kernel_rfl) [.slice none 0 0] rfl rfl) (RS.cell hH 1 (by kernel_rfl) rfl rfl rfl) ha, ?_⟩
 replace hH := hH.fr4
 replace hH := (hH.sb (slk sln)).n1
 rw [hR] at hH ⊢
 exact ⟨_, rfl, pr_lex (parse_err hR) hH⟩
 obtain ⟨l, hR, hl1, hl2⟩ := hv7.resolve_left (fun h => by obtain ⟨_, h⟩ := h; rw [h] at hc1; cases hc1)
 replace hH := hH.fr4.fr4
 rw [hR] at hH
 replace hH := Hp.open_ (l := [tksO v5 l]) hH
 replace hH := hH.fr2
 replace hH := Hp.open_ (l := []) hH
 obtain ⟨c, hT0, hH9⟩ := Hp.frozen hH
 clear hH
 have hH := hH9
 clear hH9
 obtain ⟨A0, cap0, rfl, hx1, hx2⟩ := hT0.form
 have hTL := tokens_TL hR hl1 hl2
 have hpos := hTL.pos
 refine Sk <| sw_sr <| Go1 1 16 (.func (.func 59) #[] #[Pp b1 0, Pp b3 0]) <| gl_defer (dd := parD b1 b3) rfl (by kernel_rfl) <| Dn <| sw_sr <| Go1 2 18 (.agg #[.slice A0 l.length cap0, .int .i64 0]) <| gl_st (Bx [.slice A0 l.length cap0, .int .i64 0] rfl hH ?_)
 clear hH; intro b16 w17 hH
 refine Go1 1 5 (Pp b16 0) <| Dn <| sw_seq <| sw_block ?_
 replace hH := hH.pool
 replace hH := hH.nilRow 43 10
 replace hH := hH.fr5.fr3.fr3.fr5.fr5
 refine Lp (γ := List Rv × List Tk × Option Addr × Nat × Pl × Option Addr × Nat × Nat) hH (fun (rs, lN, AN, cN, pN, xA, xc, j) => [(2, Pp b1 0), (3, Pp b3 0), (5, Pp b16 0)]) (fun (rs, lN, AN, cN, pN, xA, xc, j) w_ H_ => (rulesF (8 * l.length + 8) (l.length + 1) [] l = rulesF (8 * l.length + 8) (j + 1) (rs.map Rv.rl) lN) ∧ (lN.length ≤ j) ∧ (lN.length ≤ l.length) ∧ (TL lN) ∧ (rs.length ≤ 64) ∧ (RvsOk (pz pN) rs) ∧ (Row c (.slice AN lN.length cN) 7 lN.length (rowC tkC lN)) ∧ H_ [.blk b16 129 [.slice AN lN.length cN, .int .i64 0], plO pN, .blk b1 24 [.slice xA rs.length xc], .blk b3 32 [.nilIface], .row (.slice xA rs.length xc) 43 10 rs.length (rowC rvC rs)]) (fun (rs, lN, AN, cN, pN, xA, xc, j) => lN.length) ([], l, A0, cap0, [], none, 0, l.length) ?_ ?_
 · exact ⟨rfl, Nat.le_refl _, Nat.le_refl _, hTL, (by simp), (fun r hr => by cases hr), hT0, hH⟩
 clear hH
 rintro ⟨rs, lN, AN, cN, pN, xA, xc, j⟩ w18 ⟨hm, hj, hlN, hTN, hrs, hoN, hrN, hH⟩
 have hposN := hTN.pos
 refine swk [(2, Pp b1 0), (3, Pp b3 0), (5, Pp b16 0)] <| Cu (γ := Unit) hH (fun _ => [(2, Pp b1 0), (3, Pp b3 0), (5, Pp b16 0)]) (fun _ w_ H_ => (¬ ((rs.map Rv.rl).length ≠ 0 ∧ (hdT lN).kind = 6)) ∧ H_ [.blk b16 129 [.slice AN lN.length cN, .int .i64 0], plO pN, .blk b1 24 [.slice xA rs.length xc], .blk b3 32 [.nilIface], .row (.slice xA rs.length xc) 43 10 rs.length (rowC rvC rs)]) ?_ ?_
 ·
  refine sw_sr <| Go1 1 20 (Pp b1 0) <| Gq rfl (Lk 2 hH rfl rfl rfl) <| Gq rfl (Ln (e := 43) rfl) <| Go1 2 24 (.bool (((rs.length : Nat) : Int) == (0 : Int))) <| Gi 24 rfl (fun hg2 => ?_) (fun hg2 => ?_)
  have hr0 : rs.length = 0 := by have := hg2; omega
  refine Go1 9 33 (.bool true) <| Dn <| It <| sw_skip <| Ce (()) ?_
  exact ⟨fun h => absurd hr0 (by simpa using h.1), hH⟩
  have hr0 : ¬ rs.length = 0 := by have := hg2; omega
  refine Go1 3 27 (Pp b16 0) <| Gq rfl (Lk 0 hH rfl rfl rfl) ?_
  obtain ⟨p19, hi21, hp20⟩ := hrN.idx 0 (by omega) (by decide)
  refine Gq rfl (Ix (e := 131) 7 rfl rfl hi21) <| Go1 1 30 (.pointer (some p19)) <| Gq rfl (rd_load (by kernel_rfl) rfl (hH.zin _ _ (hp20 0 _ (by decide) (rowC_at tkC_len (hd_at hTN.pos) 0 (by decide) rfl)))) <| Go1 2 33 (.bool ((((hdT lN).kind : Nat) : Int) != (6 : Int))) <| Dn <| If rfl (fun hc4 => ?_) (fun hc4 => ?_)
  have hk6 : ¬ (hdT lN).kind = 6 := by have := hc4; omega
  refine sw_skip <| Ce (()) ?_
  exact ⟨fun h => hk6 h.2, hH⟩
  have hk6 : (hdT lN).kind = 6 := by have := hc4; omega
  refine sw_exit <| thX <| thX <| bkH <| sw_next <| sw_sr <| Gq rfl (La 2 [.slice xA rs.length xc] hH rfl rfl) <| gl_st (Ka 2 [.slice xA rs.length xc] [.slice xA rs.length xc] rfl hH rfl rfl ?_)
  clear hH; intro w22 hH
  refine gl_st (Ks 3 (.nilIface) rfl hH rfl rfl ?_)
  clear hH; intro w23 hH
  refine Dn <| retD (prRet rfl (fun a ha => cells2 rfl (RS.cellA hH 2 (by kernel_rfl) rfl rfl (by kernel_rfl) [.slice xA rs.length xc] rfl rfl) (RS.cell hH 3 (by kernel_rfl) rfl rfl rfl) ha) ?_)
  replace hH := hH.fr2.fr5
  obtain ⟨pl24, hp25, hH⟩ := pl_add hH
  replace hH := (hH.sb (slk sln)).n1
  exact ⟨_, rfl, pr_ok ((parse_ok hR).trans (hm.trans (rules_done ⟨by simpa using hr0, hk6⟩))) hrs hp25 (hoN.mono (pz_app _ _)) hH⟩
 clear hH
 rintro _ w26 ⟨hgo, hH⟩
 refine swk [(2, Pp b1 0), (3, Pp b3 0), (5, Pp b16 0)] <| sw_block <| Cu (γ := Unit) hH (fun _ => [(2, Pp b1 0), (3, Pp b3 0), (5, Pp b16 0)]) (fun _ w_ H_ => (¬ ((rs.map Rv.rl).length = 64 ∧ (hdT lN).kind = 1)) ∧ H_ [.blk b16 129 [.slice AN lN.length cN, .int .i64 0], plO pN, .blk b1 24 [.slice xA rs.length xc], .blk b3 32 [.nilIface], .row (.slice xA rs.length xc) 43 10 rs.length (rowC rvC rs)]) ?_ ?_
 ·
  refine sw_sr <| Go1 1 34 (Pp b1 0) <| Gq rfl (Lk 2 hH rfl rfl rfl) <| Gq rfl (Ln (e := 43) rfl) <| Go1 2 38 (.bool (((rs.length : Nat) : Int) == (64 : Int))) <| Gi 38 rfl (fun hg5 => ?_) (fun hg5 => ?_)
  have hr64 : rs.length = 64 := by have := hg5; omega
  refine Go1 3 41 (Pp b16 0) <| Gq rfl (Lk 0 hH rfl rfl rfl) ?_
  obtain ⟨p27, hi29, hp28⟩ := hrN.idx 0 (by omega) (by decide)
  refine Gq rfl (Ix (e := 131) 7 rfl rfl hi29) <| Go1 1 44 (.pointer (some p27)) <| Gq rfl (rd_load (by kernel_rfl) rfl (hH.zin _ _ (hp28 0 _ (by decide) (rowC_at tkC_len (hd_at hTN.pos) 0 (by decide) rfl)))) <| Go1 2 47 (.bool ((((hdT lN).kind : Nat) : Int) == (1 : Int))) <| Dn <| If rfl (fun hc6 => ?_) (fun hc6 => ?_)
  have hk1 : (hdT lN).kind = 1 := by have := hc6; omega
  refine sw_region ?_
  replace hH := hH.fr4.fr4
  refine Go1 1 48 (Pp b16 0) <| gl_st (SpD rfl rfl (YStop_ct b16 cN 2 AN lN _ (hH.blk_cell 2 rfl rfl) (hrN.mono hH.zin) hTN.pos) (fun _ _ h => h.elim) ((fun _ _ hp _ hf => prPan (mine := []) hp hH rfl hf rfl rfl (by intro er fb w2 he h; exact ⟨_, rfl, pr_err (by rw [he]; exact (parse_ok hR).trans (hm.trans (rules_long hgo ⟨by simpa using hr64, hk1⟩))) h⟩))))
  have hk1 : ¬ (hdT lN).kind = 1 := by have := hc6; omega
  refine sw_skip <| Ce (()) ?_
  exact ⟨fun h => hk1 h.2, hH⟩
  have hr64 : ¬ rs.length = 64 := by have := hg5; omega
  refine Go1 9 47 (.bool false) <| Dn <| Iz <| sw_skip <| Ce (()) ?_
  exact ⟨fun h => hr64 (by simpa using h.1), hH⟩
 clear hH
 rintro _ w32 ⟨hgo2, hH⟩
 refine swk [(2, Pp b1 0), (3, Pp b3 0), (5, Pp b16 0)] ?_
 have hlt1 : lN.tail.length = lN.length - 1 := List.length_tail
 have hlt2 : lN.tail.tail.length = lN.tail.length - 1 := List.length_tail
 refine sw_sr ?_
 replace hH := hH.fr4.fr4.fr3
 refine Go1 1 50 (Pp b16 0) ?_
 replace hH : Hp w w32 _ _ ([_] ++ [_, _, _, _]) := hH
 refine gl_st (SpD rfl rfl (YMust_ct b16 cN 0 1 AN (lN) c _ hH.zoff hH.mine hrN hTN.pos) ?_ ((fun _ _ hp _ hf => prPan hp hH rfl hf rfl rfl (by intro er fb w2 he h; exact ⟨_, rfl, pr_err (by rw [he.1]; exact (parse_ok hR).trans (hm.trans (rules_must1 hgo hgo2 he.2))) h⟩))))
 rintro _ w36 ⟨A33, c34, rfl, hk1, hT35, hF37⟩
 replace hH := hH.turns hF37
 replace hH := hH.n5
 refine gl_st (Alc [.int .i64 0, .string (bs []), .int .u64 0, .int .u64 0, .int .u64 0, .int .u64 0, .int .i64 0] rfl hH ?_)
 clear hH; intro b38 w39 hH
 refine gl_st (Ka 5 [Ni ((hdT lN).kind), .string (bs ((hdT lN).text)), .int .u64 (((hdT lN).cl.a : Nat) : Int), .int .u64 (((hdT lN).cl.b : Nat) : Int), .int .u64 (((hdT lN).cl.c : Nat) : Int), .int .u64 (((hdT lN).cl.d : Nat) : Int), Ni ((hdT lN).pos)] [Ni ((hdT lN).kind), .string (bs ((hdT lN).text)), .int .u64 (((hdT lN).cl.a : Nat) : Int), .int .u64 (((hdT lN).cl.b : Nat) : Int), .int .u64 (((hdT lN).cl.c : Nat) : Int), .int .u64 (((hdT lN).cl.d : Nat) : Int), Ni ((hdT lN).pos)] rfl hH rfl rfl ?_)
 clear hH; intro w40 hH
 refine Dn <| sw_sr ?_
 replace hH := hH.fr2.fr2.fr5
 refine Go1 1 52 (Pp b16 0) ?_
 replace hH : Hp w w40 _ _ ([_] ++ [_, _, _, _, _]) := hH
 refine gl_st (SpD rfl rfl (YMust_ct b16 c34 0 2 A33 (lN.tail) c _ hH.zoff hH.mine hT35 (hTN.tail (by omega)).pos) ?_ ((fun _ _ hp _ hf => prPan hp hH rfl hf rfl rfl (by intro er fb w2 he h; exact ⟨_, rfl, pr_err (by rw [he.1]; exact (parse_ok hR).trans (hm.trans (rules_must2 hgo hgo2 hk1 he.2))) h⟩))))
 rintro _ w44 ⟨A41, c42, rfl, hk2, hT43, hF45⟩
 replace hH := hH.turns hF45
 replace hH := hH.n6
 refine Dn <| Dr hH (slc (slk (slc (slc (slk sln))))) ?_
 clear hH; intro w46 hH hS9
 refine Gp2 2 [0,2] 54 (Pp b1 0) 56 (Pp b38 1) hS9 <| Dq 3 rfl (fun _ hS => (Lk 1 hS rfl rfl rfl)) hS9 <| Gp1 1 [4] 58 (Pp b38 6) hS9 <| Dq 5 rfl (fun _ hS => (Lk 1 hS rfl rfl rfl)) hS9 <| Gp1 1 [6] 60 (Pp b16 0) hS9 <| gd_st2 1 7 (by kernel_rfl) ?_ ?_
 refine st_q rfl rfl rfl (Lk 0 hH rfl rfl rfl) <| Nl hS9 fun hS9 => gdk [(2, Pp b1 0), (3, Pp b3 0), (5, Pp b16 0), (55, .slice xA rs.length xc), (57, .string (bs ((hdT lN).text))), (59, Ni ((hdT lN).pos)), (60, Pp b16 0)] ?_
 replace hH := hH.fr2.fr2.fr3.fr6
 replace hH : Hp w w46 _ _ ([_, _] ++ [_, _, _, _]) := hH
 refine gds 7 (SpD rfl rfl (YChoice (8 * l.length + 8) b16 c42 0 A41 lN.tail.tail pN c _ (by omega) (by omega) ((hTN.tail (by omega)).tail (by omega)) (fun h => by cases h) hH.zoff hH.mine hT43) ?_ ((fun _ _ hp _ hf => prPan hp hH rfl hf rfl rfl (by intro er fb w2 he h; exact ⟨_, rfl, pr_err ((parse_ok hR).trans (hm.trans (rules_err hgo hgo2 hk1 hk2 he))) h⟩))))
 rintro _ w58 ⟨t47, l48, A49, c50, pl51, hR52, rfl, hTL53, hle54, hpz55, htk56, hT57, hF59⟩
 replace hH := hH.turns hF59
 replace hH := hH.n6
 refine Nl (hH.sb (slc (slk (slc (slk sln))))) fun hS9 => Gp1 1 [8] 62 (.agg #[.string (bs ((hdT lN).text)), .int .i64 t47.kind, .string (bs t47.text), .int .u64 ((t47.cl.a : Nat) : Int), .int .u64 ((t47.cl.b : Nat) : Int), .int .u64 ((t47.cl.c : Nat) : Int), .int .u64 ((t47.cl.d : Nat) : Int), .slice t47.A t47.subs.length t47.cap, .int .i64 t47.pos, Ni ((hdT lN).pos)]) hS9 <| gds 9 (st_buildS (e := 43) (zv := .agg #[.string (bs []), .int .i64 0, .string (bs []), .int .u64 0, .int .u64 0, .int .u64 0, .int .u64 0, .slice none 0 0, .int .i64 0, .int .i64 0]) (m := 10) (bytes := 112) rfl rfl rfl (by kernel_rfl) (by kernel_rfl) rfl (cs := [.string (bs ((hdT lN).text)), .int .i64 t47.kind, .string (bs t47.text), .int .u64 ((t47.cl.a : Nat) : Int), .int .u64 ((t47.cl.b : Nat) : Int), .int .u64 ((t47.cl.c : Nat) : Int), .int .u64 ((t47.cl.d : Nat) : Int), .slice t47.A t47.subs.length t47.cap, .int .i64 t47.pos, Ni ((hdT lN).pos)]) (by kernel_rfl) rfl hH ?_)
 clear hH; intro b60 w61 hH
 refine Nl (hH.sb (slc (slk (slc (slk sln))))) fun hS9 => gds 10 (Apd (e := 43) (.agg #[.string (bs []), .int .i64 0, .string (bs []), .int .u64 0, .int .u64 0, .int .u64 0, .int .u64 0, .slice none 0 0, .int .i64 0, .int .i64 0]) 10 112 2 rfl hH rfl rfl rfl (hH.row_reads 6 rfl) (by simp [Value.oneCell']) (by unfold maxLen; omega) (by omega) ?_)
 clear hH; intro v62 w63 hH
 replace hH := hH.row_eq 2 (l' := (rs ++ [(⟨(hdT lN).text, t47, (((hdT lN).pos : Nat) : Int)⟩ : Rv)]).length) (xs' := rowC rvC (rs ++ [(⟨(hdT lN).text, t47, (((hdT lN).pos : Nat) : Int)⟩ : Rv)])) rfl (by simp) (by rw [← rowC_app, rowC_one]; rfl)
 obtain ⟨A64, c65, rfl, hl66, hm67⟩ := hH.row_form 2 rfl
 refine Nl (hH.sb (slc (slk (slc (slk sln))))) fun hS9 => Gp1 1 [11] 65 (Pp b1 0) hS9 <| gds 12 (Ks 0 (.slice A64 ((rs ++ [(⟨(hdT lN).text, t47, (((hdT lN).pos : Nat) : Int)⟩ : Rv)]).length) c65) rfl hH rfl rfl ?_)
 clear hH; intro w68 hH
 refine Nl (hH.sb (slc (slk (slc (slk sln))))) fun hS9 => gdn [(2, Pp b1 0), (3, Pp b3 0), (5, Pp b16 0)] <| bkN <| rnd_end (g := (rs, lN, AN, cN, pN, xA, xc, j)) (rs ++ [(⟨(hdT lN).text, t47, (((hdT lN).pos : Nat) : Int)⟩ : Rv)], l48, A49, c50, pl51, A64, c65, j - 1) (by kernel_rfl) ?_ ?_
 replace hH := hH.fr3.fr3.fr3.fr6.fr6
 replace hH := (hH.sb (slk (slk (slk (slk (slk sln)))))).n5
 · exact ⟨(by rw [hm, rules_next hgo hgo2 hk1 hk2 hR52, show j - 1 + 1 = j from by omega, List.map_append]; rfl), by omega, by omega, hTL53, (by have h64 : ¬ rs.length = 64 := fun h => hgo2 ⟨by simpa using h, hk1⟩; rw [List.length_append]; show rs.length + 1 ≤ 64; omega), (hoN.mono hpz55).add ⟨htk56, Nat.le_trans hTN.hd.1 (by decide), pos_i64 hTN⟩, hT57, hH⟩
 · show l48.length < lN.length; omega
 replace hH := hH.fr2.fr2.fr3.fr6
 replace hH : Hp w w46 _ _ ([_, _] ++ [_, _, _, _]) := hH
 refine SpD rfl rfl (YChoice (8 * l.length + 8) b16 c42 0 A41 lN.tail.tail pN c _ (by omega) (by omega) ((hTN.tail (by omega)).tail (by omega)) (fun h => by cases h) hH.zoff hH.mine hT43) ?_ ((fun _ _ hp _ hf => prPan hp hH rfl hf rfl rfl (by intro er fb w2 he h; exact ⟨_, rfl, pr_err ((parse_ok hR).trans (hm.trans (rules_err hgo hgo2 hk1 hk2 he))) h⟩)))
 rintro _ w80 ⟨t69, l70, A71, c72, pl73, hR74, rfl, hTL75, hle76, hpz77, htk78, hT79, hF81⟩
 replace hH := hH.turns hF81
 replace hH := hH.n6
 refine Nl (hH.sb (slc (slk (slc (slk sln))))) fun hS9 => gdk [(2, Pp b1 0), (3, Pp b3 0), (5, Pp b16 0), (54, Pp b1 0), (57, .string (bs ((hdT lN).text))), (59, Ni ((hdT lN).pos)), (61, .agg #[.int .i64 t69.kind, .string (bs t69.text), .int .u64 ((t69.cl.a : Nat) : Int), .int .u64 ((t69.cl.b : Nat) : Int), .int .u64 ((t69.cl.c : Nat) : Int), .int .u64 ((t69.cl.d : Nat) : Int), .slice t69.A t69.subs.length t69.cap, .int .i64 t69.pos])] <| Gp1 1 [8] 62 (.agg #[.string (bs ((hdT lN).text)), .int .i64 t69.kind, .string (bs t69.text), .int .u64 ((t69.cl.a : Nat) : Int), .int .u64 ((t69.cl.b : Nat) : Int), .int .u64 ((t69.cl.c : Nat) : Int), .int .u64 ((t69.cl.d : Nat) : Int), .slice t69.A t69.subs.length t69.cap, .int .i64 t69.pos, Ni ((hdT lN).pos)]) hS9 <| gd_st2 1 9 (by kernel_rfl) ?_ ?_
 refine st_q rfl rfl rfl (Lk 0 hH rfl rfl rfl) <| Nl hS9 fun hS9 => gdk [(2, Pp b1 0), (3, Pp b3 0), (5, Pp b16 0), (55, .slice xA rs.length xc), (62, .agg #[.string (bs ((hdT lN).text)), .int .i64 t69.kind, .string (bs t69.text), .int .u64 ((t69.cl.a : Nat) : Int), .int .u64 ((t69.cl.b : Nat) : Int), .int .u64 ((t69.cl.c : Nat) : Int), .int .u64 ((t69.cl.d : Nat) : Int), .slice t69.A t69.subs.length t69.cap, .int .i64 t69.pos, Ni ((hdT lN).pos)])] <| gds 9 (st_buildS (e := 43) (zv := .agg #[.string (bs []), .int .i64 0, .string (bs []), .int .u64 0, .int .u64 0, .int .u64 0, .int .u64 0, .slice none 0 0, .int .i64 0, .int .i64 0]) (m := 10) (bytes := 112) rfl rfl rfl (by kernel_rfl) (by kernel_rfl) rfl (cs := [.string (bs ((hdT lN).text)), .int .i64 t69.kind, .string (bs t69.text), .int .u64 ((t69.cl.a : Nat) : Int), .int .u64 ((t69.cl.b : Nat) : Int), .int .u64 ((t69.cl.c : Nat) : Int), .int .u64 ((t69.cl.d : Nat) : Int), .slice t69.A t69.subs.length t69.cap, .int .i64 t69.pos, Ni ((hdT lN).pos)]) (by kernel_rfl) rfl hH ?_)
 clear hH; intro b82 w83 hH
 refine Nl (hH.sb (slc (slk (slc (slk sln))))) fun hS9 => gds 10 (Apd (e := 43) (.agg #[.string (bs []), .int .i64 0, .string (bs []), .int .u64 0, .int .u64 0, .int .u64 0, .int .u64 0, .slice none 0 0, .int .i64 0, .int .i64 0]) 10 112 2 rfl hH rfl rfl rfl (hH.row_reads 6 rfl) (by simp [Value.oneCell']) (by unfold maxLen; omega) (by omega) ?_)
 clear hH; intro v84 w85 hH
 replace hH := hH.row_eq 2 (l' := (rs ++ [(⟨(hdT lN).text, t69, (((hdT lN).pos : Nat) : Int)⟩ : Rv)]).length) (xs' := rowC rvC (rs ++ [(⟨(hdT lN).text, t69, (((hdT lN).pos : Nat) : Int)⟩ : Rv)])) rfl (by simp) (by rw [← rowC_app, rowC_one]; rfl)
 obtain ⟨A86, c87, rfl, hl88, hm89⟩ := hH.row_form 2 rfl
 refine Nl (hH.sb (slc (slk (slc (slk sln))))) fun hS9 => Gp1 1 [11] 65 (Pp b1 0) hS9 <| gds 12 (Ks 0 (.slice A86 ((rs ++ [(⟨(hdT lN).text, t69, (((hdT lN).pos : Nat) : Int)⟩ : Rv)]).length) c87) rfl hH rfl rfl ?_)
 clear hH; intro w90 hH
 refine Nl (hH.sb (slc (slk (slc (slk sln))))) fun hS9 => gdn [(2, Pp b1 0), (3, Pp b3 0), (5, Pp b16 0)] <| bkN <| rnd_end (g := (rs, lN, AN, cN, pN, xA, xc, j)) (rs ++ [(⟨(hdT lN).text, t69, (((hdT lN).pos : Nat) : Int)⟩ : Rv)], l70, A71, c72, pl73, A86, c87, j - 1) (by kernel_rfl) ?_ ?_
 replace hH := hH.fr3.fr3.fr3.fr6.fr6
 replace hH := (hH.sb (slk (slk (slk (slk (slk sln)))))).n5
 · exact ⟨(by rw [hm, rules_next hgo hgo2 hk1 hk2 hR74, show j - 1 + 1 = j from by omega, List.map_append]; rfl), by omega, by omega, hTL75, (by have h64 : ¬ rs.length = 64 := fun h => hgo2 ⟨by simpa using h, hk1⟩; rw [List.length_append]; show rs.length + 1 ≤ 64; omega), (hoN.mono hpz77).add ⟨htk78, Nat.le_trans hTN.hd.1 (by decide), pos_i64 hTN⟩, hT79, hH⟩
 · show l70.length < lN.length; omega
 refine st_buildS (e := 43) (zv := .agg #[.string (bs []), .int .i64 0, .string (bs []), .int .u64 0, .int .u64 0, .int .u64 0, .int .u64 0, .slice none 0 0, .int .i64 0, .int .i64 0]) (m := 10) (bytes := 112) rfl rfl rfl (by kernel_rfl) (by kernel_rfl) rfl (cs := [.string (bs ((hdT lN).text)), .int .i64 t69.kind, .string (bs t69.text), .int .u64 ((t69.cl.a : Nat) : Int), .int .u64 ((t69.cl.b : Nat) : Int), .int .u64 ((t69.cl.c : Nat) : Int), .int .u64 ((t69.cl.d : Nat) : Int), .slice t69.A t69.subs.length t69.cap, .int .i64 t69.pos, Ni ((hdT lN).pos)]) (by kernel_rfl) rfl hH ?_
 clear hH; intro b91 w92 hH
 refine Nl (hH.sb (slc (slk (slc (slk sln))))) fun hS9 => gdk [(2, Pp b1 0), (3, Pp b3 0), (5, Pp b16 0), (54, Pp b1 0), (63, .slice (some ⟨b91, 0, none⟩) 1 1)] <| gds 1 (st_q rfl rfl rfl (Lk 0 hH rfl rfl rfl) ?_)
 refine Nl hS9 fun hS9 => gds 10 (Apd (e := 43) (.agg #[.string (bs []), .int .i64 0, .string (bs []), .int .u64 0, .int .u64 0, .int .u64 0, .int .u64 0, .slice none 0 0, .int .i64 0, .int .i64 0]) 10 112 2 rfl hH rfl rfl rfl (hH.row_reads 6 rfl) (by simp [Value.oneCell']) (by unfold maxLen; omega) (by omega) ?_)
 clear hH; intro v93 w94 hH
 replace hH := hH.row_eq 2 (l' := (rs ++ [(⟨(hdT lN).text, t69, (((hdT lN).pos : Nat) : Int)⟩ : Rv)]).length) (xs' := rowC rvC (rs ++ [(⟨(hdT lN).text, t69, (((hdT lN).pos : Nat) : Int)⟩ : Rv)])) rfl (by simp) (by rw [← rowC_app, rowC_one]; rfl)
 obtain ⟨A95, c96, rfl, hl97, hm98⟩ := hH.row_form 2 rfl
 refine Nl (hH.sb (slc (slk (slc (slk sln))))) fun hS9 => Gp1 1 [11] 65 (Pp b1 0) hS9 <| gds 12 (Ks 0 (.slice A95 ((rs ++ [(⟨(hdT lN).text, t69, (((hdT lN).pos : Nat) : Int)⟩ : Rv)]).length) c96) rfl hH rfl rfl ?_)
 clear hH; intro w99 hH
 refine Nl (hH.sb (slc (slk (slc (slk sln))))) fun hS9 => gdn [(2, Pp b1 0), (3, Pp b3 0), (5, Pp b16 0)] <| bkN <| rnd_end (g := (rs, lN, AN, cN, pN, xA, xc, j)) (rs ++ [(⟨(hdT lN).text, t69, (((hdT lN).pos : Nat) : Int)⟩ : Rv)], l70, A71, c72, pl73, A95, c96, j - 1) (by kernel_rfl) ?_ ?_
 replace hH := hH.fr3.fr3.fr3.fr6.fr6
 replace hH := (hH.sb (slk (slk (slk (slk (slk sln)))))).n5
 · exact ⟨(by rw [hm, rules_next hgo hgo2 hk1 hk2 hR74, show j - 1 + 1 = j from by omega, List.map_append]; rfl), by omega, by omega, hTL75, (by have h64 : ¬ rs.length = 64 := fun h => hgo2 ⟨by simpa using h, hk1⟩; rw [List.length_append]; show rs.length + 1 ≤ 64; omega), (hoN.mono hpz77).add ⟨htk78, Nat.le_trans hTN.hd.1 (by decide), pos_i64 hTN⟩, hT79, hH⟩
 · show l70.length < lN.length; omega
end Go.Proofs.YtllfpnbhjfadiaaGreatDoor
/- Going through a row until a function says yes: plain mathematics, and how closures are told. -/
set_option linter.unusedVariables false
namespace Go.Proofs.YtllfpnbhjfadiaaGreatDoor
open Go.RowKit Go.SW
def idxS {α σ : Type} (p : σ → α → Bool × σ) : Nat → σ → List α → Int × σ
  | _, s, [] => (-1, s)
  | i, s, x :: l => if (p s x).1 then ((i : Int), (p s x).2) else idxS p (i + 1) (p s x).2 l
section
variable {α σ : Type} {p : σ → α → Bool × σ} {s : σ} {l : List α} {i : Nat} {x : α}
theorem idxS_at (h : l[i]? = some x) : idxS p i s (l.drop i) = if (p s x).1 then ((i : Int), (p s x).2) else idxS p (i + 1) (p s x).2 (l.drop (i + 1)) := by
  obtain ⟨hi, rfl⟩ := List.getElem?_eq_some_iff.1 h
  rw [List.drop_eq_getElem_cons hi]; rfl
theorem idxS_yes (h : l[i]? = some x) (hp : (p s x).1 = true) : idxS p i s (l.drop i) = ((i : Int), (p s x).2) := by rw [idxS_at h, if_pos hp]
theorem idxS_no (h : l[i]? = some x) (hp : (p s x).1 = false) : idxS p i s (l.drop i) = idxS p (i + 1) (p s x).2 (l.drop (i + 1)) := by rw [idxS_at h, hp]; rfl
theorem idxS_end (h : l.length ≤ i) : idxS p i s (l.drop i) = (-1, s) := by rw [List.drop_eq_nil_of_le h]; rfl
end
def anyS {α σ : Type} (p : σ → α → Bool × σ) : σ → List α → Bool × σ
  | s, [] => (false, s)
  | s, x :: l => if (p s x).1 then (true, (p s x).2) else anyS p (p s x).2 l
theorem idxS_any {α σ : Type} (p : σ → α → Bool × σ) : ∀ (l : List α) (i : Nat) (s : σ), (decide (0 ≤ (idxS p i s l).1), (idxS p i s l).2) = anyS p s l
  | [], i, s => rfl
  | x :: l, i, s => by
    rw [idxS, anyS]
    split
    · simp
    · exact idxS_any p l (i + 1) _
def pureP {α : Type} (q : α → Bool) : Unit → α → Bool × Unit := fun _ x => (q x, ())
theorem anyS_pure {α : Type} (q : α → Bool) : ∀ l : List α, anyS (pureP q) () l = (l.any q, ())
  | [] => rfl
  | x :: l => by
    rw [anyS, anyS_pure q l]
    by_cases hq : q x = true
    · simp [pureP, hq]
    · simp [pureP, hq]
theorem idxS_pure {α : Type} (q : α → Bool) : ∀ (l : List α) (i : Nat), (idxS (pureP q) i () l).1 = if l.any q then ((i + l.findIdx q : Nat) : Int) else -1
  | [], i => rfl
  | x :: l, i => by
    rw [idxS, List.any_cons, List.findIdx_cons]
    by_cases hq : q x = true
    · simp [pureP, hq]
    · have h1 := idxS_pure q l (i + 1)
      have h2 : (if (pureP q () x).1 = true then (((i : Nat) : Int), (pureP q () x).2) else idxS (pureP q) (i + 1) (pureP q () x).2 l) = idxS (pureP q) (i + 1) () l := if_neg hq
      rw [h2, h1, Bool.eq_false_iff.2 hq, Bool.false_or, cond_false]
      split
      · congr 1; omega
      · rfl
def SaysC {α σ : Type} (f : FuncId) (cl : List Value) (C : α → List Value) (c : Zone) (M : σ → Own) (p : σ → α → Bool × σ) (x : α) : Prop :=
  ∀ (s : σ) (w' : World), c.le (off w' (blksOf [M s])) → Mine w' [M s] → Fun Tryz.prog f (.agg (C x).toArray :: cl) w' fun v w2 => v = .bool (p s x).1 ∧ Turn w' w2 [M s] [M (p s x).2]
def M0 : Unit → Own := fun _ => .grp []
theorem says0 {α : Type} {f : FuncId} {cl : List Value} {C : α → List Value} {c : Zone} {q : α → Bool} {x : α} (h : ∀ w', c.le w'.cell? → Fun Tryz.prog f (.agg (C x).toArray :: cl) w' fun v w2 => v = .bool (q x) ∧ Fresh w' w2 []) : SaysC f cl C c M0 (pureP q) x := by
  intro s w' hc hM
  refine Fun.mono (h w' (hc.trans (off_le _ _))) ?_
  rintro v w2 ⟨rfl, hF⟩
  exact ⟨rfl, Hp.nogrp (hF.turn : Turn w' w2 [] [])⟩
theorem mine0 (w : World) : Mine w [M0 ()] := ⟨fun o ho => by obtain rfl := List.mem_singleton.1 ho; exact fun o h => (by cases h), by simp [blksOf, M0, Own.grp]⟩
theorem le0 {c : Zone} {w : World} (h : c.le w.cell?) : c.le (off w (blksOf [M0 ()])) := fun a v e => by
  unfold off
  rw [if_neg (by simp [blksOf, M0, Own.grp])]
  exact h a v e
theorem turn0 {w w' : World} (h : Turn w w' [M0 ()] [M0 ()]) : Fresh w w' [] := Hp.open_ (l := []) (r := []) h
end Go.Proofs.YtllfpnbhjfadiaaGreatDoor
/- slices.IndexFunc, slices.ContainsFunc over rows of trees, of rules: what they answer of whatever closure. -/
set_option maxRecDepth 100000
set_option maxHeartbeats 2000000
set_option linter.unusedVariables false
set_option linter.unusedSimpArgs false
namespace Go.Proofs.YtllfpnbhjfadiaaGreatDoor
open Go.RowKit Go.SW

theorem IdxNd_ct {σ : Type} (f : FuncId) (cl : List Value) (M : σ → Own) (p : σ → Tv → Bool × σ) (s0 : σ) (cap : Nat) (A : Option Addr) (ts : List Tv) (c : Zone) (w : World) (hcal : callable Tryz.prog f = true) (hc : c.le (off w (blksOf [M s0]))) (hM : Mine w [M s0]) (hT : Row c (.slice A ts.length cap) 8 ts.length (rowC tvC ts)) (hf : ∀ x ∈ ts, SaysC f cl tvC c M p x) :
    Fun Tryz.prog 145 [.slice A ts.length cap, .func (.func f) #[] cl.toArray] w fun v w' => v = .int .i64 (idxS p 0 s0 ts).1 ∧ Turn w w' [M s0] [M (idxS p 0 s0 ts).2] := by
 obtain ⟨Ax, cx, hx9, hx1, hx2⟩ := hT.form
 cases hx9
 have hml : maxLen ≤ 9223372036854775807 := by unfold maxLen; decide
 refine fun_of_sw Tryz.func145 rfl 19 rfl rfl ?_
 have hH := (Hp.start_mine hM).zsub hc
 refine sw_sr <| Go0 1 <| Dn <| sw_seq <| sw_sr <| Go1 1 6 (.slice A ts.length cap) <| Gq rfl (Ln (e := 41) rfl) <| Go1 1 8 (.int .i64 0) <| Dn <| sw_block <| Lp (γ := Nat × σ) hH (fun (i, s) => [(0, .slice A ts.length cap), (1, .func (.func f) #[] cl.toArray), (7, Ni ts.length), (8, Ni i)]) (fun (i, s) w_ H_ => (idxS p 0 s0 ts = idxS p i s (ts.drop i)) ∧ (i ≤ ts.length) ∧ H_ [M s]) (fun (i, s) => ts.length - i) (0, s0) ?_ ?_
 · exact ⟨rfl, Nat.zero_le _, hH⟩
 clear hH
 rintro ⟨i, s⟩ w1 ⟨hm, hi, hH⟩
 refine swk [(0, .slice A ts.length cap), (1, .func (.func f) #[] cl.toArray), (7, Ni ts.length), (8, Ni i)] <| sw_sr <| Go1 1 9 (.bool (decide ((i : Int) < ((ts.length : Nat) : Int)))) <| Dn <| sw_seq <| If rfl (fun hc1 => ?_) (fun hc1 => ?_)
 refine Sk <| sw_seq <| sw_block <| sw_sr <| Go1 2 5 (Ni i) <| Dn ?_
 obtain ⟨x, hx⟩ : ∃ x, ts[i]? = some x := ⟨_, List.getElem?_eq_getElem (by omega)⟩
 refine sw_sr ?_
 obtain ⟨p2, hi4, hp3⟩ := hT.idx i (by omega) (by decide)
 refine Go3 3 11 (.func (.func f) #[] cl.toArray) 12 (.slice A ts.length cap) 13 (Ni i) <| Gq rfl (Ix (e := 41) 8 rfl rfl hi4) <| Gq rfl (rd_loadZA (by kernel_rfl) hH hp3 rfl 0 rfl [.int .i64 x.kind, .string (bs x.text), .int .u64 ((x.cl.a : Nat) : Int), .int .u64 ((x.cl.b : Nat) : Int), .int .u64 ((x.cl.c : Nat) : Int), .int .u64 ((x.cl.d : Nat) : Int), .slice x.A x.subs.length x.cap, .int .i64 x.pos] (by kernel_rfl) (rowC_all tvC_len hx 0 _ rfl)) ?_
 replace hH : Hp w w1 _ _ ([_] ++ []) := hH
 refine gl_st (st_callv rfl rfl rfl hcal rfl rfl (hf x (List.mem_of_getElem? hx) s _ hH.zoff hH.mine) ?_)
 rintro _ w5 ⟨rfl, hF6⟩
 replace hH := hH.turns hF6
 replace hH := hH.n1
 refine Dn <| If rfl (fun hc2 => ?_) (fun hc2 => ?_)
 have hq := hc2
 refine sw_sr <| Go1 2 4 (Ni i) <| Dn <| Rt1 rfl rfl ?_
 exact ⟨by rw [hm, idxS_yes hx hq], by rw [hm, idxS_yes hx hq]; exact hH.turned⟩
 have hq := hc2
 refine sw_skip <| bkN <| sw_next <| sw_region <| Gw0 1 18 ((i : Int) + 1) ((i + 1 : Nat) : Int) <| Go1 1 8 (Ni (i + 1)) <| Dd <| rnd_end (g := (i, s)) (i + 1, (p s x).2) (by kernel_rfl) ?_ ?_
 · exact ⟨by rw [hm, idxS_no hx hq], by omega, hH⟩
 · show ts.length - (i + 1) < ts.length - i; omega
 refine sw_exit <| thX <| thX <| bkH <| sw_next <| sw_sr <| Go1 1 4 (.int .i64 (-1)) <| Dn <| Rt1 rfl rfl ?_
 exact ⟨by rw [hm, idxS_end (by omega)], by rw [hm, idxS_end (by omega)]; exact hH.turned⟩
theorem CtnNd_ct {σ : Type} (f : FuncId) (cl : List Value) (M : σ → Own) (p : σ → Tv → Bool × σ) (s0 : σ) (cap : Nat) (A : Option Addr) (ts : List Tv) (c : Zone) (w : World) (hcal : callable Tryz.prog f = true) (hc : c.le (off w (blksOf [M s0]))) (hM : Mine w [M s0]) (hT : Row c (.slice A ts.length cap) 8 ts.length (rowC tvC ts)) (hf : ∀ x ∈ ts, SaysC f cl tvC c M p x) :
    Fun Tryz.prog 110 [.slice A ts.length cap, .func (.func f) #[] cl.toArray] w fun v w' => v = .bool (anyS p s0 ts).1 ∧ Turn w w' [M s0] [M (anyS p s0 ts).2] := by
 refine fun_of_sw Tryz.func110 rfl 9 rfl rfl ?_
 have hH := (Hp.start_mine hM).zsub hc
 refine sw_sr <| Go0 1 <| Dn <| sw_sr <| Go2 2 5 (.slice A ts.length cap) 6 (.func (.func f) #[] cl.toArray) ?_
 replace hH : Hp w w _ _ ([_] ++ []) := hH
 refine gl_st (Sc rfl rfl (IdxNd_ct f cl M p s0 cap A ts c _ hcal hH.zoff hH.mine hT hf) ?_)
 rintro _ w1 ⟨rfl, hF2⟩
 replace hH := hH.turns hF2
 replace hH := hH.n1
 refine Go1 2 4 (.bool (decide (((idxS p 0 s0 ts).1) ≥ (0 : Int)))) <| Dn <| Rt1 rfl rfl ?_
 exact ⟨by rw [← idxS_any p ts 0 s0], by rw [← idxS_any p ts 0 s0]; exact hH.turned⟩
theorem CtnNd0 (f : FuncId) (cl : List Value) (q : Tv → Bool) (cap : Nat) (A : Option Addr) (ts : List Tv) (c : Zone) (w : World) (hcal : callable Tryz.prog f = true) (hc : c.le w.cell?) (hT : Row c (.slice A ts.length cap) 8 ts.length (rowC tvC ts)) (hf : ∀ x ∈ ts, ∀ w', c.le w'.cell? → Fun Tryz.prog f (.agg (tvC x).toArray :: cl) w' fun v w2 => v = .bool (q x) ∧ Fresh w' w2 []) :
    Fun Tryz.prog 110 [.slice A ts.length cap, .func (.func f) #[] cl.toArray] w fun v w' => v = .bool (ts.any q) ∧ Fresh w w' [] := by
  refine Fun.mono (CtnNd_ct f cl M0 (pureP q) () cap A ts c w hcal (le0 hc) (mine0 w) hT fun x hx => says0 (hf x hx)) ?_
  rintro v w' ⟨rfl, hF⟩
  rw [anyS_pure] at hF ⊢
  exact ⟨rfl, turn0 hF⟩
theorem IdxRl_ct {σ : Type} (f : FuncId) (cl : List Value) (M : σ → Own) (p : σ → Rv → Bool × σ) (s0 : σ) (cap : Nat) (A : Option Addr) (ts : List Rv) (c : Zone) (w : World) (hcal : callable Tryz.prog f = true) (hc : c.le (off w (blksOf [M s0]))) (hM : Mine w [M s0]) (hT : Row c (.slice A ts.length cap) 10 ts.length (rowC rvC ts)) (hf : ∀ x ∈ ts, SaysC f cl rvC c M p x) :
    Fun Tryz.prog 117 [.slice A ts.length cap, .func (.func f) #[] cl.toArray] w fun v w' => v = .int .i64 (idxS p 0 s0 ts).1 ∧ Turn w w' [M s0] [M (idxS p 0 s0 ts).2] := by
 obtain ⟨Ax, cx, hx9, hx1, hx2⟩ := hT.form
 cases hx9
 have hml : maxLen ≤ 9223372036854775807 := by unfold maxLen; decide
 refine fun_of_sw Tryz.func117 rfl 19 rfl rfl ?_
 have hH := (Hp.start_mine hM).zsub hc
 refine sw_sr <| Go0 1 <| Dn <| sw_seq <| sw_sr <| Go1 1 6 (.slice A ts.length cap) <| Gq rfl (Ln (e := 43) rfl) <| Go1 1 8 (.int .i64 0) <| Dn <| sw_block <| Lp (γ := Nat × σ) hH (fun (i, s) => [(0, .slice A ts.length cap), (1, .func (.func f) #[] cl.toArray), (7, Ni ts.length), (8, Ni i)]) (fun (i, s) w_ H_ => (idxS p 0 s0 ts = idxS p i s (ts.drop i)) ∧ (i ≤ ts.length) ∧ H_ [M s]) (fun (i, s) => ts.length - i) (0, s0) ?_ ?_
 · exact ⟨rfl, Nat.zero_le _, hH⟩
 clear hH
 rintro ⟨i, s⟩ w1 ⟨hm, hi, hH⟩
 refine swk [(0, .slice A ts.length cap), (1, .func (.func f) #[] cl.toArray), (7, Ni ts.length), (8, Ni i)] <| sw_sr <| Go1 1 9 (.bool (decide ((i : Int) < ((ts.length : Nat) : Int)))) <| Dn <| sw_seq <| If rfl (fun hc1 => ?_) (fun hc1 => ?_)
 refine Sk <| sw_seq <| sw_block <| sw_sr <| Go1 2 5 (Ni i) <| Dn ?_
 obtain ⟨x, hx⟩ : ∃ x, ts[i]? = some x := ⟨_, List.getElem?_eq_getElem (by omega)⟩
 refine sw_sr ?_
 obtain ⟨p2, hi4, hp3⟩ := hT.idx i (by omega) (by decide)
 refine Go3 3 11 (.func (.func f) #[] cl.toArray) 12 (.slice A ts.length cap) 13 (Ni i) <| Gq rfl (Ix (e := 43) 10 rfl rfl hi4) <| Gq rfl (rd_loadZA (by kernel_rfl) hH hp3 rfl 0 rfl [.string (bs x.name), .int .i64 x.body.kind, .string (bs x.body.text), .int .u64 ((x.body.cl.a : Nat) : Int), .int .u64 ((x.body.cl.b : Nat) : Int), .int .u64 ((x.body.cl.c : Nat) : Int), .int .u64 ((x.body.cl.d : Nat) : Int), .slice x.body.A x.body.subs.length x.body.cap, .int .i64 x.body.pos, .int .i64 x.pos] (by kernel_rfl) (rowC_all rvC_len hx 0 _ rfl)) ?_
 replace hH : Hp w w1 _ _ ([_] ++ []) := hH
 refine gl_st (st_callv rfl rfl rfl hcal rfl rfl (hf x (List.mem_of_getElem? hx) s _ hH.zoff hH.mine) ?_)
 rintro _ w5 ⟨rfl, hF6⟩
 replace hH := hH.turns hF6
 replace hH := hH.n1
 refine Dn <| If rfl (fun hc2 => ?_) (fun hc2 => ?_)
 have hq := hc2
 refine sw_sr <| Go1 2 4 (Ni i) <| Dn <| Rt1 rfl rfl ?_
 exact ⟨by rw [hm, idxS_yes hx hq], by rw [hm, idxS_yes hx hq]; exact hH.turned⟩
 have hq := hc2
 refine sw_skip <| bkN <| sw_next <| sw_region <| Gw0 1 18 ((i : Int) + 1) ((i + 1 : Nat) : Int) <| Go1 1 8 (Ni (i + 1)) <| Dd <| rnd_end (g := (i, s)) (i + 1, (p s x).2) (by kernel_rfl) ?_ ?_
 · exact ⟨by rw [hm, idxS_no hx hq], by omega, hH⟩
 · show ts.length - (i + 1) < ts.length - i; omega
 refine sw_exit <| thX <| thX <| bkH <| sw_next <| sw_sr <| Go1 1 4 (.int .i64 (-1)) <| Dn <| Rt1 rfl rfl ?_
 exact ⟨by rw [hm, idxS_end (by omega)], by rw [hm, idxS_end (by omega)]; exact hH.turned⟩
theorem CtnRl_ct {σ : Type} (f : FuncId) (cl : List Value) (M : σ → Own) (p : σ → Rv → Bool × σ) (s0 : σ) (cap : Nat) (A : Option Addr) (ts : List Rv) (c : Zone) (w : World) (hcal : callable Tryz.prog f = true) (hc : c.le (off w (blksOf [M s0]))) (hM : Mine w [M s0]) (hT : Row c (.slice A ts.length cap) 10 ts.length (rowC rvC ts)) (hf : ∀ x ∈ ts, SaysC f cl rvC c M p x) :
    Fun Tryz.prog 233 [.slice A ts.length cap, .func (.func f) #[] cl.toArray] w fun v w' => v = .bool (anyS p s0 ts).1 ∧ Turn w w' [M s0] [M (anyS p s0 ts).2] := by
 refine fun_of_sw Tryz.func233 rfl 9 rfl rfl ?_
 have hH := (Hp.start_mine hM).zsub hc
 refine sw_sr <| Go0 1 <| Dn <| sw_sr <| Go2 2 5 (.slice A ts.length cap) 6 (.func (.func f) #[] cl.toArray) ?_
 replace hH : Hp w w _ _ ([_] ++ []) := hH
 refine gl_st (Sc rfl rfl (IdxRl_ct f cl M p s0 cap A ts c _ hcal hH.zoff hH.mine hT hf) ?_)
 rintro _ w1 ⟨rfl, hF2⟩
 replace hH := hH.turns hF2
 replace hH := hH.n1
 refine Go1 2 4 (.bool (decide (((idxS p 0 s0 ts).1) ≥ (0 : Int)))) <| Dn <| Rt1 rfl rfl ?_
 exact ⟨by rw [← idxS_any p ts 0 s0], by rw [← idxS_any p ts 0 s0]; exact hH.turned⟩
theorem CtnRl0 (f : FuncId) (cl : List Value) (q : Rv → Bool) (cap : Nat) (A : Option Addr) (ts : List Rv) (c : Zone) (w : World) (hcal : callable Tryz.prog f = true) (hc : c.le w.cell?) (hT : Row c (.slice A ts.length cap) 10 ts.length (rowC rvC ts)) (hf : ∀ x ∈ ts, ∀ w', c.le w'.cell? → Fun Tryz.prog f (.agg (rvC x).toArray :: cl) w' fun v w2 => v = .bool (q x) ∧ Fresh w' w2 []) :
    Fun Tryz.prog 233 [.slice A ts.length cap, .func (.func f) #[] cl.toArray] w fun v w' => v = .bool (ts.any q) ∧ Fresh w w' [] := by
  refine Fun.mono (CtnRl_ct f cl M0 (pureP q) () cap A ts c w hcal (le0 hc) (mine0 w) hT fun x hx => says0 (hf x hx)) ?_
  rintro v w' ⟨rfl, hF⟩
  rw [anyS_pure] at hF ⊢
  exact ⟨rfl, turn0 hF⟩
theorem IdxRl0 (f : FuncId) (cl : List Value) (q : Rv → Bool) (cap : Nat) (A : Option Addr) (ts : List Rv) (c : Zone) (w : World) (hcal : callable Tryz.prog f = true) (hc : c.le w.cell?) (hT : Row c (.slice A ts.length cap) 10 ts.length (rowC rvC ts)) (hf : ∀ x ∈ ts, ∀ w', c.le w'.cell? → Fun Tryz.prog f (.agg (rvC x).toArray :: cl) w' fun v w2 => v = .bool (q x) ∧ Fresh w' w2 []) :
    Fun Tryz.prog 117 [.slice A ts.length cap, .func (.func f) #[] cl.toArray] w fun v w' => v = .int .i64 (if ts.any q then ((ts.findIdx q : Nat) : Int) else -1) ∧ Fresh w w' [] := by
  refine Fun.mono (IdxRl_ct f cl M0 (pureP q) () cap A ts c w hcal (le0 hc) (mine0 w) hT fun x hx => says0 (hf x hx)) ?_
  rintro v w' ⟨rfl, hF⟩
  exact ⟨by rw [idxS_pure, Nat.zero_add], turn0 hF⟩

end Go.Proofs.YtllfpnbhjfadiaaGreatDoor
/- Layer 5 (printer): plain mathematics of what may be printed. -/
set_option linter.unusedVariables false
namespace Go.Proofs.YtllfpnbhjfadiaaGreatDoor
open Go.RowKit Go.SW
def okHd (k : Int) (t : List UInt8) (n : Nat) : Bool :=
  if k = 5 then (nameB t && (((n : Nat) : Int) == (0 : Int))) else if k = 2 then (decide (((t.length : Nat) : Int) ≤ (255 : Int)) && (((n : Nat) : Int) == (0 : Int))) else if k = 1 ∨ k = 4 ∨ k = 3 then (t == [] && (((n : Nat) : Int) == (0 : Int))) else if k = 6 ∨ k = 7 then (t == [] && decide (((n : Nat) : Int) > (1 : Int))) else if 8 ≤ k ∧ k ≤ 12 then (t == [] && (((n : Nat) : Int) == (1 : Int))) else false
theorem okNds_eq : ∀ s : List Nd, okNds s = s.all okNd
  | [] => rfl
  | x :: s => by rw [okNds, okNds_eq s]; rfl
theorem empty_beq {α : Type} (s : List α) : s.isEmpty = (((s.length : Nat) : Int) == (0 : Int)) := by cases s <;> simp <;> omega
theorem empty_nil (t : List UInt8) : t.isEmpty = (t == []) := by cases t <;> rfl
theorem okNd_hd (k : Int) (t : List UInt8) (c : Cl) (s : List Nd) (p : Int) : okNd (.mk k t c s p) = ((k == 3 || c.isZ) && okHd k t s.length && s.all okNd) := by
  rw [okNd, okNds_eq]
  congr 2
  unfold okHd
  rw [empty_beq s, empty_nil]
  repeat' split
  all_goals first
    | rfl
    | (congr 1; rw [Bool.eq_iff_iff]; simp; done)
    | (congr 1; rw [Bool.eq_iff_iff]; simp; omega)
theorem okNd_eq (t : Tv) : okNd t.nd = ((t.kind == 3 || t.cl.isZ) && okHd t.kind t.text t.subs.length && t.subs.all fun x => okNd x.nd) := by
  cases t with
  | mk k t c A cap s p =>
    rw [Tv.nd, okNd_hd, Tv.nds_eq, List.length_map, List.all_map]
    rfl
theorem TvOk.subs {c : Zone} {t : Tv} (h : TvOk c t) : TvsOk c t.subs := by cases h with | mk h1 h2 h3 h4 h5 h6 => exact h6
theorem TvOk.row {c : Zone} {t : Tv} (h : TvOk c t) : Row c (.slice t.A t.subs.length t.cap) 8 t.subs.length (rowC tvC t.subs) := by cases h with | mk h1 h2 h3 h4 h5 h6 => exact h2
theorem TvOk.text {c : Zone} {t : Tv} (h : TvOk c t) : t.text.length ≤ 140737488355328 := by cases h with | mk h1 h2 h3 h4 h5 h6 => exact h3
theorem TvOk.kind {c : Zone} {t : Tv} (h : TvOk c t) : -9223372036854775808 ≤ t.kind ∧ t.kind ≤ 9223372036854775807 := by cases h with | mk h1 h2 h3 h4 h5 h6 => exact h4
theorem TvOk.cls {c : Zone} {t : Tv} (h : TvOk c t) : t.cl.Ok := by cases h with | mk h1 h2 h3 h4 h5 h6 => exact h1
theorem Tv.ind {P : Tv → Prop} (h : ∀ t, (∀ x ∈ t.subs, P x) → P t) (t : Tv) : P t := by
  suffices ∀ n, ∀ t : Tv, t.size ≤ n → P t from this _ t (Nat.le_refl _)
  intro n
  induction n with
  | zero => intro t ht; cases t; rw [Tv.size] at ht; omega
  | succ n ih =>
    intro t ht
    refine h t fun x hx => ih x ?_
    cases t with
    | mk k tx c A cap s p =>
      have := Tv.size_mem (s := s) hx
      rw [Tv.size] at ht
      omega
def partF (least : Nat) (n : Nd) (acc : List UInt8) : List UInt8 := if least ≤ rankF n.kind then exprF n acc else exprF n (acc ++ [40]) ++ [41]
theorem rowF_cons (x : Nd) (s : List Nd) (btw : List UInt8) (least : Nat) (first : Bool) (acc : List UInt8) : rowF (x :: s) btw least first acc = rowF s btw least false (partF least x (if first then acc else acc ++ btw)) := by rw [rowF]; rfl
theorem exprF_eq (t : Tv) (acc : List UInt8) : exprF t.nd acc =
    if 8192 < acc.length then acc else
    if t.kind = 1 then acc ++ [40, 41] else if t.kind = 2 then acc ++ quoteL t.text else if t.kind = 3 then acc ++ textC t.cl else if t.kind = 4 then acc ++ [46] else if t.kind = 5 then acc ++ t.text else
    if t.kind = 7 then rowF (Tv.nds t.subs) [32, 47, 32] 1 true acc else if t.kind = 6 then rowF (Tv.nds t.subs) [32] 2 true acc else
    if t.kind = 11 ∨ t.kind = 12 then rowF (Tv.nds t.subs) [] 3 true (acc ++ [if t.kind = 11 then 38 else 33]) else
    rowF (Tv.nds t.subs) [] 4 true acc ++ [if t.kind = 8 then 63 else if t.kind = 9 then 42 else 43] := by
  cases t with
  | mk k t c A cap s p => rw [Tv.nd, exprF]; rfl
theorem okHd_text {k : Int} {t : List UInt8} {n : Nat} (h : okHd k t n = true) : t.length ≤ 255 := by
  unfold okHd at h
  split at h
  · rw [Bool.and_eq_true] at h
    have := h.1; unfold nameB at this; simp only [beq_iff_eq, decide_eq_true_eq, Bool.and_eq_true] at this; omega
  split at h
  · rw [Bool.and_eq_true, decide_eq_true_eq] at h; omega
  split at h
  · rw [Bool.and_eq_true, beq_iff_eq] at h; rw [h.1]; simp
  split at h
  · rw [Bool.and_eq_true, beq_iff_eq] at h; rw [h.1]; simp
  split at h
  · rw [Bool.and_eq_true, beq_iff_eq] at h; rw [h.1]; simp
  · cases h
theorem quoteL_len (t : List UInt8) : (quoteL t).length ≤ 4 * t.length + 2 := by
  have := quoteB_flat t
  unfold quoteL
  simp only [List.length_append, List.length_cons, List.length_nil]
  omega
theorem Nd.size_mem : ∀ {s : List Nd} {x : Nd}, x ∈ s → Nd.size x ≤ Nd.sizes s
  | y :: s, x, h => by
    rw [Nd.sizes]
    rcases List.mem_cons.1 h with rfl | h
    · omega
    · have := Nd.size_mem h; omega
def LenOk (n : Nd) : Prop := ∀ acc, okNd n = true → (exprF n acc).length + 10 ≤ acc.length + 2400 * n.size
theorem rowF_lenH (btw : List UInt8) (least : Nat) (hb : btw.length ≤ 3) : ∀ (s : List Nd) (first : Bool) (acc : List UInt8), (∀ x ∈ s, LenOk x) → s.all okNd = true → (rowF s btw least first acc).length ≤ acc.length + 2400 * Nd.sizes s
  | [], first, acc, H, h => by rw [rowF]; omega
  | x :: s, first, acc, H, h => by
    rw [List.all_cons, Bool.and_eq_true] at h
    rw [rowF_cons]
    refine Nat.le_trans (rowF_lenH btw least hb s false _ (fun y hy => H y (List.mem_cons_of_mem x hy)) h.2) ?_
    have h1 : (if first then acc else acc ++ btw).length ≤ acc.length + 3 := by
      split
      · omega
      · rw [List.length_append]; omega
    have h2 := H x (List.mem_cons_self ..) (if first then acc else acc ++ btw) h.1
    have h3 := H x (List.mem_cons_self ..) ((if first then acc else acc ++ btw) ++ [40]) h.1
    rw [Nd.sizes]
    unfold partF
    rw [List.length_append] at h3
    simp only [List.length_cons, List.length_nil] at h3
    split
    · omega
    · rw [List.length_append]; simp only [List.length_cons, List.length_nil]; omega
theorem exprF_lenK {k : Int} {t : List UInt8} {c : Cl} {s : List Nd} {p : Int} (H : ∀ x ∈ s, LenOk x) : LenOk (.mk k t c s p) := by
  intro acc h
  rw [okNd_hd, Bool.and_eq_true, Bool.and_eq_true] at h
  have h1 := okHd_text h.1.2
  have h2 := quoteL_len t
  have h3 := textC_len c
  have h4 := rowF_lenH [32, 47, 32] 1 (by decide) s true acc H h.2
  have h5 := rowF_lenH [32] 2 (by decide) s true acc H h.2
  have h6 := rowF_lenH [] 3 (by decide) s true (acc ++ [if k = 11 then 38 else 33]) H h.2
  have h7 := rowF_lenH [] 4 (by decide) s true acc H h.2
  rw [exprF, Nd.size]
  rw [List.length_append, List.length_singleton] at h6
  clear H h
  by_cases e0 : 8192 < acc.length
  · rw [if_pos e0]; omega
  rw [if_neg e0]
  by_cases e1 : k = 1
  · rw [if_pos e1]; rw [List.length_append]; simp only [List.length_cons, List.length_nil]; omega
  rw [if_neg e1]
  by_cases e2 : k = 2
  · rw [if_pos e2]; rw [List.length_append]; omega
  rw [if_neg e2]
  by_cases e3 : k = 3
  · rw [if_pos e3]; rw [List.length_append]; omega
  rw [if_neg e3]
  by_cases e4 : k = 4
  · rw [if_pos e4]; rw [List.length_append, List.length_singleton]; omega
  rw [if_neg e4]
  by_cases e5 : k = 5
  · rw [if_pos e5]; rw [List.length_append]; omega
  rw [if_neg e5]
  by_cases e6 : k = 7
  · rw [if_pos e6]; omega
  rw [if_neg e6]
  by_cases e7 : k = 6
  · rw [if_pos e7]; omega
  rw [if_neg e7]
  by_cases e8 : k = 11 ∨ k = 12
  · rw [if_pos e8]; omega
  rw [if_neg e8]
  rw [List.length_append, List.length_singleton]; omega
theorem exprF_len (n : Nd) : LenOk n := by
  suffices ∀ N, ∀ n : Nd, n.size ≤ N → LenOk n from this _ n (Nat.le_refl _)
  intro N
  induction N with
  | zero => intro n hn; cases n; rw [Nd.size] at hn; omega
  | succ N ih =>
    intro n hn
    cases n with
    | mk k t c s p =>
      rw [Nd.size] at hn
      exact exprF_lenK fun x hx => ih x (by have := Nd.size_mem hx; omega)
theorem partF_len {n : Nd} (acc : List UInt8) (least : Nat) (h : okNd n = true) : (partF least n acc).length + 7 ≤ acc.length + 2400 * n.size := by
  have h2 := exprF_len n acc h
  have h3 := exprF_len n (acc ++ [40]) h
  unfold partF
  rw [List.length_append] at h3
  simp only [List.length_cons, List.length_nil] at h3
  split
  · omega
  · rw [List.length_append]; simp only [List.length_cons, List.length_nil]; omega
mutual
theorem Tv.nd_size : ∀ t : Tv, t.nd.size = t.size
  | .mk k t c A cap s p => by rw [Tv.nd, Nd.size, Tv.size, Tv.nds_size s]
theorem Tv.nds_size : ∀ s : List Tv, Nd.sizes (Tv.nds s) = Tv.sizes s
  | [] => rfl
  | x :: s => by rw [Tv.nds, Nd.sizes, Tv.sizes, Tv.nd_size x, Tv.nds_size s]
end
theorem Tv.size_subs (t : Tv) : t.size = Tv.sizes t.subs + 1 := by cases t; rw [Tv.size]; rfl
theorem Tv.nd_kind (t : Tv) : t.nd.kind = t.kind := by cases t; rfl
theorem Tv.sizes_at {s : List Tv} {i : Nat} {x : Tv} (h : s[i]? = some x) : Tv.sizes (s.drop i) = x.size + Tv.sizes (s.drop (i + 1)) := by
  obtain ⟨hi, rfl⟩ := List.getElem?_eq_some_iff.1 h
  rw [List.drop_eq_getElem_cons hi, Tv.sizes]
theorem rowF_at {s : List Tv} {i : Nat} {x : Tv} (h : s[i]? = some x) (btw : List UInt8) (least : Nat) (first : Bool) (acc : List UInt8) : rowF (Tv.nds (s.drop i)) btw least first acc = rowF (Tv.nds (s.drop (i + 1))) btw least false (partF least x.nd (if first then acc else acc ++ btw)) := by
  obtain ⟨hi, rfl⟩ := List.getElem?_eq_some_iff.1 h
  rw [List.drop_eq_getElem_cons hi, Tv.nds, rowF_cons]
theorem okNd_parts {t : Tv} (h : okNd t.nd = true) : okHd t.kind t.text t.subs.length = true ∧ ∀ x ∈ t.subs, okNd x.nd = true := by
  rw [okNd_eq, Bool.and_eq_true, Bool.and_eq_true] at h
  exact ⟨h.1.2, fun x hx => List.all_eq_true.1 h.2 x hx⟩
theorem okHd_kind {k : Int} {t : List UInt8} {n : Nat} (h : okHd k t n = true) : 1 ≤ k ∧ k ≤ 12 := by
  unfold okHd at h
  repeat' split at h
  all_goals first
    | omega
    | cases h
def lineF (r : Rl) (acc : List UInt8) : List UInt8 := exprF r.body (acc ++ (r.name ++ [32, 60, 45, 32])) ++ [10]
def linesF : List Rl → List UInt8 → Option (List UInt8)
  | [], acc => some acc
  | r :: rs, acc => if 8192 < (lineF r acc).length then none else linesF rs (lineF r acc)
def ruleRl (r : Rl) : Bool := nameB r.name && okNd r.body
def printF (rs : List Rl) : Except Nat (List UInt8) :=
  if rs.length < 1 ∨ 64 < rs.length ∨ (rs.any fun r => !(ruleRl r)) = true then .error 20 else
  match linesF rs [] with
  | none => .error 2
  | some t => match parseF t with
    | .error _ => .error 20
    | .ok _ => .ok t
def codE {α : Type} : Except Nat α → Nat
  | .error c => c
  | .ok _ => 0
def okE : Except Nat (List UInt8) → List UInt8
  | .error _ => []
  | .ok t => t
def Rv.sizes : List Rv → Nat
  | [] => 0
  | r :: rs => r.body.size + 1 + Rv.sizes rs
theorem Rv.sizes_at {s : List Rv} {i : Nat} {x : Rv} (h : s[i]? = some x) : Rv.sizes (s.drop i) = x.body.size + 1 + Rv.sizes (s.drop (i + 1)) := by
  obtain ⟨hi, rfl⟩ := List.getElem?_eq_some_iff.1 h
  rw [List.drop_eq_getElem_cons hi, Rv.sizes]
theorem linesF_at {s : List Rv} {i : Nat} {x : Rv} (h : s[i]? = some x) (acc : List UInt8) : linesF ((s.drop i).map Rv.rl) acc = if 8192 < (lineF x.rl acc).length then none else linesF ((s.drop (i + 1)).map Rv.rl) (lineF x.rl acc) := by
  obtain ⟨hi, rfl⟩ := List.getElem?_eq_some_iff.1 h
  rw [List.drop_eq_getElem_cons hi, List.map_cons, linesF]
theorem sufB {k : Int} {j : Nat} (h : k = 8 + j) (hj : j < 3) : (if k = 8 then (63 : UInt8) else if k = 9 then 42 else 43) = UInt8.ofNat (gb [63, 42, 43] j) := by
  match j, hj with
  | 0, _ => rw [h]; rfl
  | 1, _ => rw [h]; rfl
  | 2, _ => rw [h]; rfl
end Go.Proofs.YtllfpnbhjfadiaaGreatDoor
/- Layer 5 (printer): which trees may be printed: what the program's functions answer. -/
set_option maxRecDepth 100000
set_option maxHeartbeats 2000000
set_option linter.unusedVariables false
set_option linter.unusedSimpArgs false
namespace Go.Proofs.YtllfpnbhjfadiaaGreatDoor
open Go.RowKit Go.SW
def NdC (t : Tv) : Prop := ∀ (c : Zone) (w : World), TvOk c t → c.le w.cell? → Fun Tryz.prog 263 [.agg (tvC t).toArray] w fun v w' => v = .bool (okNd t.nd) ∧ Fresh w w' []

theorem PNodeC_ct (x : Tv) (h : NdC x) (c : Zone) (w : World) (hok : TvOk c x) (hc : c.le w.cell?) :
    Fun Tryz.prog 278 [.agg (tvC x).toArray] w fun v w' => v = .bool (!(okNd x.nd)) ∧ Fresh w w' [] := by
 refine fun_of_sw Tryz.func278 rfl 6 rfl rfl ?_
 have hH := Hp.start w
 refine sw_sr <| gl_st (Bx [.int .i64 x.kind, .string (bs x.text), .int .u64 ((x.cl.a : Nat) : Int), .int .u64 ((x.cl.b : Nat) : Int), .int .u64 ((x.cl.c : Nat) : Int), .int .u64 ((x.cl.d : Nat) : Int), .slice x.A x.subs.length x.cap, .int .i64 x.pos] rfl hH ?_)
 clear hH; intro b1 w2 hH
 refine Go0 1 <| Dn <| sw_sr <| Gq rfl (La 0 [.int .i64 x.kind, .string (bs x.text), .int .u64 ((x.cl.a : Nat) : Int), .int .u64 ((x.cl.b : Nat) : Int), .int .u64 ((x.cl.c : Nat) : Int), .int .u64 ((x.cl.d : Nat) : Int), .slice x.A x.subs.length x.cap, .int .i64 x.pos] hH rfl rfl) <| gl_st (Sc rfl rfl (h c _ hok (hc.trans hH.zin)) ?_)
 rintro _ w3 ⟨rfl, hF4⟩
 replace hH := hH.call hF4
 refine Go1 2 2 (.bool (!(okNd x.nd))) <| Dn <| Rt1 rfl rfl ?_
 exact ⟨rfl, (hH.sb sln).fresh⟩
theorem PNode_step (t : Tv) (IH : ∀ x ∈ t.subs, NdC x) : NdC t := by
 intro c w hok hc
 have hkd := hok.kind
 have htl := hok.text
 obtain ⟨Ax, cx, hx9, hx1, hx2⟩ := hok.row.form
 cases hx9
 have hml : maxLen ≤ 9223372036854775807 := by unfold maxLen; decide
 refine fun_of_sw Tryz.func263 rfl 76 rfl rfl ?_
 have hH := Hp.start w
 refine sw_sr <| gl_st (Bx [.int .i64 t.kind, .string (bs t.text), .int .u64 ((t.cl.a : Nat) : Int), .int .u64 ((t.cl.b : Nat) : Int), .int .u64 ((t.cl.c : Nat) : Int), .int .u64 ((t.cl.d : Nat) : Int), .slice t.A t.subs.length t.cap, .int .i64 t.pos] rfl hH ?_)
 clear hH; intro b1 w2 hH
 refine Go0 1 <| Dn <| sw_sr <| Go1 1 5 (Pp b1 6) <| Gq rfl (Lk 0 hH rfl rfl rfl) <| Gq rfl (Ln (e := 41) rfl) <| Go1 1 3 (Ni t.subs.length) <| Dn <| Cu (γ := Unit) hH (fun _ => [(1, Pp b1 0), (3, Ni t.subs.length)]) (fun _ w_ H_ => ((t.kind == 3 || t.cl.isZ) = true) ∧ H_ [.blk b1 41 [.int .i64 t.kind, .string (bs t.text), .int .u64 ((t.cl.a : Nat) : Int), .int .u64 ((t.cl.b : Nat) : Int), .int .u64 ((t.cl.c : Nat) : Int), .int .u64 ((t.cl.d : Nat) : Int), .slice t.A t.subs.length t.cap, .int .i64 t.pos]]) ?_ ?_
 ·
  refine sw_sr <| Go1 1 8 (Pp b1 0) <| Gq rfl (Lk 0 hH rfl rfl rfl) <| Go1 2 11 (.bool ((t.kind : Int) != (3 : Int))) <| Gi 11 rfl (fun hg1 => ?_) (fun hg1 => ?_)
  have hk3n := hg1
  refine Go1 1 12 (Pp b1 2) <| Gq rfl (La 0 [.int .u64 ((t.cl.a : Nat) : Int), .int .u64 ((t.cl.b : Nat) : Int), .int .u64 ((t.cl.c : Nat) : Int), .int .u64 ((t.cl.d : Nat) : Int)] hH rfl rfl) <| Go1 1 14 (.agg #[.int .u64 0, .int .u64 0, .int .u64 0, .int .u64 0]) <| Gq rfl (rd_arr4_neq (e := 36) (by kernel_rfl) (by kernel_rfl) (by kernel_rfl) (by kernel_rfl) (k0 := .u64) (by kernel_rfl) rfl rfl) <| gl_cv 15 (.bool (!t.cl.isZ)) (by rw [isZ_int]) rfl <| Go1 1 16 (.bool (!t.cl.isZ)) <| Dn <| sw_cond rfl rfl (fun hc2 => ?_) (fun hc2 => ?_)
  refine sw_cv 16 (.bool true) (by rw [hc2]) rfl ?_
  try simp only [Bool.not_eq_true'] at hc2
  have hcz : t.cl.isZ = false := by simpa using hc2
  refine sw_sr <| Go1 1 2 (.bool false) <| Dn <| Rt1 rfl rfl ?_
  exact ⟨by rw [okNd_eq, hcz]; simp [hk3n], (hH.sb sln).fresh⟩
  refine sw_cv 16 (.bool false) (by rw [hc2]) rfl ?_
  try simp only [Bool.not_eq_false'] at hc2
  have hcz : t.cl.isZ = true := by simpa using hc2
  refine sw_skip <| Ce (()) ?_
  exact ⟨by rw [hcz, Bool.or_true], hH⟩
  have hk3 := hg1
  refine Go1 5 16 (.bool false) <| Dn <| Iz <| sw_skip <| Ce (()) ?_
  exact ⟨by rw [show t.kind = 3 from by omega]; rfl, hH⟩
 clear hH
 rintro _ w3 ⟨hz, hH⟩
 refine swk [(1, Pp b1 0), (3, Ni t.subs.length)] <| sw_sr <| Go1 1 17 (Pp b1 1) <| Gq rfl (Lk 0 hH rfl rfl rfl) <| Gq rfl (rd_seql (by kernel_rfl) rfl rfl) <| Go1 1 4 (.bool (t.text == [])) <| Dn <| Cu (γ := Bool) hH (fun b => [(1, Pp b1 0), (4, .bool b)]) (fun b w_ H_ => (okHd t.kind t.text t.subs.length = b) ∧ H_ [.blk b1 41 [.int .i64 t.kind, .string (bs t.text), .int .u64 ((t.cl.a : Nat) : Int), .int .u64 ((t.cl.b : Nat) : Int), .int .u64 ((t.cl.c : Nat) : Int), .int .u64 ((t.cl.d : Nat) : Int), .slice t.A t.subs.length t.cap, .int .i64 t.pos]]) ?_ ?_
 ·
  refine sw_sr <| Go1 1 20 (Pp b1 0) <| Gq rfl (Lk 0 hH rfl rfl rfl) <| Dn <| sw_block <| sw_sr <| Go1 2 22 (.bool ((t.kind : Int) == (5 : Int))) <| Dn <| sw_cond rfl rfl (fun hc4 => ?_) (fun hc4 => ?_)
  refine sw_cv 22 (.bool true) (by rw [hc4]) rfl ?_
  try simp only [beq_iff_eq] at hc4
  have hk5 : t.kind = 5 := hc4
  refine sw_region <| Go1 1 24 (Pp b1 1) <| Gq rfl (Lk 0 hH rfl rfl rfl) <| gl_st (Sc rfl rfl (LexName_ct t.text _ htl) ?_)
  rintro _ w4 ⟨rfl, hF5⟩
  replace hH := hH.call hF5
  refine Go1 1 27 (.bool (nameB t.text)) <| gl_split 27 (b := nameB t.text) rfl (fun hg5 => ?_) (fun hg5 => ?_)
  have hn := hg5
  refine Go1 4 4 (.bool (((t.subs.length : Nat) : Int) == (0 : Int))) <| Dd <| bkN <| Ce (((t.subs.length : Nat) : Int) == (0 : Int)) ?_
  exact ⟨by rw [hk5]; show (_ && _) = _; rw [hn]; rfl, hH⟩
  have hn := hg5
  refine Go1 4 4 (.bool false) <| Dd <| bkN <| Ce (false) ?_
  exact ⟨by rw [hk5]; show (_ && _) = _; rw [hn]; rfl, hH⟩
  refine sw_cv 22 (.bool false) (by rw [hc4]) rfl ?_
  try simp only [beq_eq_false_iff_ne, ne_eq] at hc4
  have hk5 : ¬ t.kind = 5 := hc4
  refine sw_sr <| Go1 2 31 (.bool ((t.kind : Int) == (2 : Int))) <| Dn <| sw_cond rfl rfl (fun hc6 => ?_) (fun hc6 => ?_)
  refine sw_cv 31 (.bool true) (by rw [hc6]) rfl ?_
  try simp only [beq_iff_eq] at hc6
  have hk2 : t.kind = 2 := hc6
  refine sw_region <| Go1 1 33 (Pp b1 1) <| Gq rfl (Lk 0 hH rfl rfl rfl) <| Gc0 1 35 (.int .i64 (((bs t.text).size : Nat) : Int)) (Ni t.text.length) (by rw [bs_size]) <| Go1 2 37 (.bool (decide (((t.text.length : Nat) : Int) ≤ (255 : Int)))) <| gl_split 37 (b := decide (((t.text.length : Nat) : Int) ≤ (255 : Int))) rfl (fun hg7 => ?_) (fun hg7 => ?_)
  have hn := hg7
  refine Go1 4 4 (.bool (((t.subs.length : Nat) : Int) == (0 : Int))) <| Dd <| bkN <| Ce (((t.subs.length : Nat) : Int) == (0 : Int)) ?_
  exact ⟨by rw [hk2]; show (_ && _) = _; rw [hn]; rfl, hH⟩
  have hn := hg7
  refine Go1 4 4 (.bool false) <| Dd <| bkN <| Ce (false) ?_
  exact ⟨by rw [hk2]; show (_ && _) = _; rw [hn]; rfl, hH⟩
  refine sw_cv 31 (.bool false) (by rw [hc6]) rfl ?_
  try simp only [beq_eq_false_iff_ne, ne_eq] at hc6
  have hk2 : ¬ t.kind = 2 := hc6
  refine sw_seq <| sw_sr <| Go1 2 41 (.bool ((t.kind : Int) == (1 : Int))) <| Dn <| sw_cond rfl rfl (fun hc8 => ?_) (fun hc8 => ?_)
  refine sw_cv 41 (.bool true) (by rw [hc8]) rfl ?_
  try simp only [beq_iff_eq] at hc8
  have hk1 : t.kind = 1 := hc8
  refine Sk <| It <| sw_region <| Go1 2 46 (.bool (t.text == [])) <| gl_split 46 (b := t.text == []) rfl (fun hg10 => ?_) (fun hg10 => ?_)
  have hn := hg10
  refine Go1 4 4 (.bool (((t.subs.length : Nat) : Int) == (0 : Int))) <| Dd <| bkN <| Ce (((t.subs.length : Nat) : Int) == (0 : Int)) ?_
  exact ⟨by rw [hk1]; show (_ && _) = _; rw [hn]; rfl, hH⟩
  have hn := hg10
  refine Go1 4 4 (.bool false) <| Dd <| bkN <| Ce (false) ?_
  exact ⟨by rw [hk1]; show (_ && _) = _; rw [hn]; rfl, hH⟩
  refine sw_cv 41 (.bool false) (by rw [hc8]) rfl ?_
  try simp only [beq_eq_false_iff_ne, ne_eq] at hc8
  have hk1 : ¬ t.kind = 1 := hc8
  refine sw_sr <| Go1 2 41 (.bool ((t.kind : Int) == (4 : Int))) <| Dn <| sw_cond rfl rfl (fun hc11 => ?_) (fun hc11 => ?_)
  refine sw_cv 41 (.bool true) (by rw [hc11]) rfl ?_
  try simp only [beq_iff_eq] at hc11
  have hk4 : t.kind = 4 := hc11
  refine Sk <| It <| sw_region <| Go1 2 46 (.bool (t.text == [])) <| gl_split 46 (b := t.text == []) rfl (fun hg13 => ?_) (fun hg13 => ?_)
  have hn := hg13
  refine Go1 4 4 (.bool (((t.subs.length : Nat) : Int) == (0 : Int))) <| Dd <| bkN <| Ce (((t.subs.length : Nat) : Int) == (0 : Int)) ?_
  exact ⟨by rw [hk4]; show (_ && _) = _; rw [hn]; rfl, hH⟩
  have hn := hg13
  refine Go1 4 4 (.bool false) <| Dd <| bkN <| Ce (false) ?_
  exact ⟨by rw [hk4]; show (_ && _) = _; rw [hn]; rfl, hH⟩
  refine sw_cv 41 (.bool false) (by rw [hc11]) rfl ?_
  try simp only [beq_eq_false_iff_ne, ne_eq] at hc11
  have hk4 : ¬ t.kind = 4 := hc11
  refine sw_region <| Go1 2 41 (.bool ((t.kind : Int) == (3 : Int))) <| Dd <| sw_next <| sw_cond rfl rfl (fun hc14 => ?_) (fun hc14 => ?_)
  refine sw_cv 41 (.bool true) (by rw [hc14]) rfl ?_
  try simp only [beq_iff_eq] at hc14
  have hk3 : t.kind = 3 := hc14
  refine sw_region <| Go1 2 46 (.bool (t.text == [])) <| gl_split 46 (b := t.text == []) rfl (fun hg15 => ?_) (fun hg15 => ?_)
  have hn := hg15
  refine Go1 4 4 (.bool (((t.subs.length : Nat) : Int) == (0 : Int))) <| Dd <| bkN <| Ce (((t.subs.length : Nat) : Int) == (0 : Int)) ?_
  exact ⟨by rw [hk3]; show (_ && _) = _; rw [hn]; rfl, hH⟩
  have hn := hg15
  refine Go1 4 4 (.bool false) <| Dd <| bkN <| Ce (false) ?_
  exact ⟨by rw [hk3]; show (_ && _) = _; rw [hn]; rfl, hH⟩
  refine sw_cv 41 (.bool false) (by rw [hc14]) rfl ?_
  try simp only [beq_eq_false_iff_ne, ne_eq] at hc14
  have hk3 : ¬ t.kind = 3 := hc14
  refine sw_seq <| sw_sr <| Go1 2 50 (.bool ((t.kind : Int) == (6 : Int))) <| Dn <| sw_cond rfl rfl (fun hc16 => ?_) (fun hc16 => ?_)
  refine sw_cv 50 (.bool true) (by rw [hc16]) rfl ?_
  try simp only [beq_iff_eq] at hc16
  have hk6 : t.kind = 6 := hc16
  refine Sk <| It <| sw_region <| Go1 2 54 (.bool (t.text == [])) <| gl_split 54 (b := t.text == []) rfl (fun hg18 => ?_) (fun hg18 => ?_)
  have hn := hg18
  refine Go1 4 4 (.bool (decide (((t.subs.length : Nat) : Int) > (1 : Int)))) <| Dd <| bkN <| Ce (decide (((t.subs.length : Nat) : Int) > (1 : Int))) ?_
  exact ⟨by rw [hk6]; show (_ && _) = _; rw [hn]; rfl, hH⟩
  have hn := hg18
  refine Go1 4 4 (.bool false) <| Dd <| bkN <| Ce (false) ?_
  exact ⟨by rw [hk6]; show (_ && _) = _; rw [hn]; rfl, hH⟩
  refine sw_cv 50 (.bool false) (by rw [hc16]) rfl ?_
  try simp only [beq_eq_false_iff_ne, ne_eq] at hc16
  have hk6 : ¬ t.kind = 6 := hc16
  refine sw_region <| Go1 2 50 (.bool ((t.kind : Int) == (7 : Int))) <| Dd <| sw_next <| sw_cond rfl rfl (fun hc19 => ?_) (fun hc19 => ?_)
  refine sw_cv 50 (.bool true) (by rw [hc19]) rfl ?_
  try simp only [beq_iff_eq] at hc19
  have hk7 : t.kind = 7 := hc19
  refine sw_region <| Go1 2 54 (.bool (t.text == [])) <| gl_split 54 (b := t.text == []) rfl (fun hg20 => ?_) (fun hg20 => ?_)
  have hn := hg20
  refine Go1 4 4 (.bool (decide (((t.subs.length : Nat) : Int) > (1 : Int)))) <| Dd <| bkN <| Ce (decide (((t.subs.length : Nat) : Int) > (1 : Int))) ?_
  exact ⟨by rw [hk7]; show (_ && _) = _; rw [hn]; rfl, hH⟩
  have hn := hg20
  refine Go1 4 4 (.bool false) <| Dd <| bkN <| Ce (false) ?_
  exact ⟨by rw [hk7]; show (_ && _) = _; rw [hn]; rfl, hH⟩
  refine sw_cv 50 (.bool false) (by rw [hc19]) rfl ?_
  try simp only [beq_eq_false_iff_ne, ne_eq] at hc19
  have hk7 : ¬ t.kind = 7 := hc19
  refine sw_seq <| sw_sr <| Go1 2 58 (.bool ((t.kind : Int) == (8 : Int))) <| Dn <| sw_cond rfl rfl (fun hc21 => ?_) (fun hc21 => ?_)
  refine sw_cv 58 (.bool true) (by rw [hc21]) rfl ?_
  try simp only [beq_iff_eq] at hc21
  have hk8 : t.kind = 8 := hc21
  refine Sk <| It <| sw_region <| Go1 2 65 (.bool (t.text == [])) <| gl_split 65 (b := t.text == []) rfl (fun hg23 => ?_) (fun hg23 => ?_)
  have hn := hg23
  refine Go1 4 4 (.bool (((t.subs.length : Nat) : Int) == (1 : Int))) <| Dd <| bkN <| Ce (((t.subs.length : Nat) : Int) == (1 : Int)) ?_
  exact ⟨by rw [hk8]; show (_ && _) = _; rw [hn]; rfl, hH⟩
  have hn := hg23
  refine Go1 4 4 (.bool false) <| Dd <| bkN <| Ce (false) ?_
  exact ⟨by rw [hk8]; show (_ && _) = _; rw [hn]; rfl, hH⟩
  refine sw_cv 58 (.bool false) (by rw [hc21]) rfl ?_
  try simp only [beq_eq_false_iff_ne, ne_eq] at hc21
  have hk8 : ¬ t.kind = 8 := hc21
  refine sw_sr <| Go1 2 58 (.bool ((t.kind : Int) == (9 : Int))) <| Dn <| sw_cond rfl rfl (fun hc24 => ?_) (fun hc24 => ?_)
  refine sw_cv 58 (.bool true) (by rw [hc24]) rfl ?_
  try simp only [beq_iff_eq] at hc24
  have hk9 : t.kind = 9 := hc24
  refine Sk <| It <| sw_region <| Go1 2 65 (.bool (t.text == [])) <| gl_split 65 (b := t.text == []) rfl (fun hg26 => ?_) (fun hg26 => ?_)
  have hn := hg26
  refine Go1 4 4 (.bool (((t.subs.length : Nat) : Int) == (1 : Int))) <| Dd <| bkN <| Ce (((t.subs.length : Nat) : Int) == (1 : Int)) ?_
  exact ⟨by rw [hk9]; show (_ && _) = _; rw [hn]; rfl, hH⟩
  have hn := hg26
  refine Go1 4 4 (.bool false) <| Dd <| bkN <| Ce (false) ?_
  exact ⟨by rw [hk9]; show (_ && _) = _; rw [hn]; rfl, hH⟩
  refine sw_cv 58 (.bool false) (by rw [hc24]) rfl ?_
  try simp only [beq_eq_false_iff_ne, ne_eq] at hc24
  have hk9 : ¬ t.kind = 9 := hc24
  refine sw_sr <| Go1 2 58 (.bool ((t.kind : Int) == (10 : Int))) <| Dn <| sw_cond rfl rfl (fun hc27 => ?_) (fun hc27 => ?_)
  refine sw_cv 58 (.bool true) (by rw [hc27]) rfl ?_
  try simp only [beq_iff_eq] at hc27
  have hk10 : t.kind = 10 := hc27
  refine Sk <| It <| sw_region <| Go1 2 65 (.bool (t.text == [])) <| gl_split 65 (b := t.text == []) rfl (fun hg29 => ?_) (fun hg29 => ?_)
  have hn := hg29
  refine Go1 4 4 (.bool (((t.subs.length : Nat) : Int) == (1 : Int))) <| Dd <| bkN <| Ce (((t.subs.length : Nat) : Int) == (1 : Int)) ?_
  exact ⟨by rw [hk10]; show (_ && _) = _; rw [hn]; rfl, hH⟩
  have hn := hg29
  refine Go1 4 4 (.bool false) <| Dd <| bkN <| Ce (false) ?_
  exact ⟨by rw [hk10]; show (_ && _) = _; rw [hn]; rfl, hH⟩
  refine sw_cv 58 (.bool false) (by rw [hc27]) rfl ?_
  try simp only [beq_eq_false_iff_ne, ne_eq] at hc27
  have hk10 : ¬ t.kind = 10 := hc27
  refine sw_sr <| Go1 2 58 (.bool ((t.kind : Int) == (11 : Int))) <| Dn <| sw_cond rfl rfl (fun hc30 => ?_) (fun hc30 => ?_)
  refine sw_cv 58 (.bool true) (by rw [hc30]) rfl ?_
  try simp only [beq_iff_eq] at hc30
  have hk11 : t.kind = 11 := hc30
  refine Sk <| It <| sw_region <| Go1 2 65 (.bool (t.text == [])) <| gl_split 65 (b := t.text == []) rfl (fun hg32 => ?_) (fun hg32 => ?_)
  have hn := hg32
  refine Go1 4 4 (.bool (((t.subs.length : Nat) : Int) == (1 : Int))) <| Dd <| bkN <| Ce (((t.subs.length : Nat) : Int) == (1 : Int)) ?_
  exact ⟨by rw [hk11]; show (_ && _) = _; rw [hn]; rfl, hH⟩
  have hn := hg32
  refine Go1 4 4 (.bool false) <| Dd <| bkN <| Ce (false) ?_
  exact ⟨by rw [hk11]; show (_ && _) = _; rw [hn]; rfl, hH⟩
  refine sw_cv 58 (.bool false) (by rw [hc30]) rfl ?_
  try simp only [beq_eq_false_iff_ne, ne_eq] at hc30
  have hk11 : ¬ t.kind = 11 := hc30
  refine sw_region <| Go1 2 58 (.bool ((t.kind : Int) == (12 : Int))) <| Dd <| sw_next <| sw_cond rfl rfl (fun hc33 => ?_) (fun hc33 => ?_)
  refine sw_cv 58 (.bool true) (by rw [hc33]) rfl ?_
  try simp only [beq_iff_eq] at hc33
  have hk12 : t.kind = 12 := hc33
  refine sw_region <| Go1 2 65 (.bool (t.text == [])) <| gl_split 65 (b := t.text == []) rfl (fun hg34 => ?_) (fun hg34 => ?_)
  have hn := hg34
  refine Go1 4 4 (.bool (((t.subs.length : Nat) : Int) == (1 : Int))) <| Dd <| bkN <| Ce (((t.subs.length : Nat) : Int) == (1 : Int)) ?_
  exact ⟨by rw [hk12]; show (_ && _) = _; rw [hn]; rfl, hH⟩
  have hn := hg34
  refine Go1 4 4 (.bool false) <| Dd <| bkN <| Ce (false) ?_
  exact ⟨by rw [hk12]; show (_ && _) = _; rw [hn]; rfl, hH⟩
  refine sw_cv 58 (.bool false) (by rw [hc33]) rfl ?_
  try simp only [beq_eq_false_iff_ne, ne_eq] at hc33
  have hk12 : ¬ t.kind = 12 := hc33
  refine sw_sr <| Go1 1 2 (.bool false) <| Dn <| Rt1 rfl rfl ?_
  exact ⟨by rw [okNd_eq, show okHd t.kind t.text t.subs.length = false from by unfold okHd; rw [if_neg hk5, if_neg hk2, if_neg (by omega), if_neg (by omega), if_neg (by omega)]]; simp, (hH.sb sln).fresh⟩
 clear hH
 rintro b w6 ⟨hb, hH⟩
 refine swk [(1, Pp b1 0), (4, .bool b)] <| sw_sr <| Go1 2 70 (.bool b) <| gl_split 70 (b := b) rfl (fun hg35 => ?_) (fun hg35 => ?_)
 have hn := hg35
 refine Go1 1 71 (Pp b1 6) <| Gq rfl (Lk 0 hH rfl rfl rfl) <| gl_st (Sc rfl rfl (CtnNd0 278 [] (fun x => !(okNd x.nd)) t.cap t.A t.subs c _ (by kernel_rfl) (hc.trans hH.zin) hok.row (fun x hx w9 hle => PNodeC_ct x (IH x hx) c w9 (hok.subs x hx) hle)) ?_)
 rintro _ w7 ⟨rfl, hF8⟩
 replace hH := hH.call hF8
 refine Go1 3 2 (.bool (!(t.subs.any fun x => !(okNd x.nd)))) <| Dn <| Rt1 rfl rfl ?_
 exact ⟨by rw [okNd_eq, hb, hn, hz, List.not_any_eq_all_not]; simp, (hH.sb sln).fresh⟩
 have hn := hg35
 refine Go1 6 2 (.bool false) <| Dn <| Rt1 rfl rfl ?_
 exact ⟨by rw [okNd_eq, hb, hn]; simp, (hH.sb sln).fresh⟩
theorem PNode_ct (t : Tv) : NdC t := Tv.ind PNode_step t

end Go.Proofs.YtllfpnbhjfadiaaGreatDoor
/- Layer 5 (printer): expressions are written: what the program's functions answer. -/
set_option maxRecDepth 100000
set_option maxHeartbeats 2000000
set_option linter.unusedVariables false
set_option linter.unusedSimpArgs false
namespace Go.Proofs.YtllfpnbhjfadiaaGreatDoor
open Go.RowKit Go.SW
def ruleB (r : Rv) : Bool := nameB r.name && okNd r.body.nd
theorem lies_pg : Lies 320 := by unfold Lies; kernel_rfl

theorem PRule_ct (r : Rv) (c : Zone) (w : World) (hok : RvOk c r) (hc : c.le w.cell?) :
    Fun Tryz.prog 235 [.agg (rvC r).toArray] w fun v w' => v = .bool (ruleB r) ∧ Fresh w w' [] := by
 refine fun_of_sw Tryz.func235 rfl 11 rfl rfl ?_
 have hH := Hp.start w
 refine sw_sr <| gl_st (Bx [.string (bs r.name), .int .i64 r.body.kind, .string (bs r.body.text), .int .u64 ((r.body.cl.a : Nat) : Int), .int .u64 ((r.body.cl.b : Nat) : Int), .int .u64 ((r.body.cl.c : Nat) : Int), .int .u64 ((r.body.cl.d : Nat) : Int), .slice r.body.A r.body.subs.length r.body.cap, .int .i64 r.body.pos, .int .i64 r.pos] rfl hH ?_)
 clear hH; intro b1 w2 hH
 refine Go0 1 <| Dn <| sw_sr <| Go1 1 3 (Pp b1 0) <| Gq rfl (Lk 0 hH rfl rfl rfl) <| gl_st (Sc rfl rfl (LexName_ct r.name _ hok.name) ?_)
 rintro _ w3 ⟨rfl, hF4⟩
 replace hH := hH.call hF4
 refine Go1 1 6 (.bool (nameB r.name)) <| gl_split 6 (b := nameB r.name) rfl (fun hg1 => ?_) (fun hg1 => ?_)
 have hn := hg1
 refine Go1 1 7 (Pp b1 1) <| Gq rfl (La 0 [.int .i64 r.body.kind, .string (bs r.body.text), .int .u64 ((r.body.cl.a : Nat) : Int), .int .u64 ((r.body.cl.b : Nat) : Int), .int .u64 ((r.body.cl.c : Nat) : Int), .int .u64 ((r.body.cl.d : Nat) : Int), .slice r.body.A r.body.subs.length r.body.cap, .int .i64 r.body.pos] hH rfl rfl) <| gl_st (Sc rfl rfl (PNode_ct r.body c _ hok.body (hc.trans hH.zin)) ?_)
 rintro _ w5 ⟨rfl, hF6⟩
 replace hH := hH.call hF6
 refine Go1 2 2 (.bool (okNd r.body.nd)) <| Dn <| Rt1 rfl rfl ?_
 exact ⟨by unfold ruleB; rw [hn]; rfl, (hH.sb sln).fresh⟩
 have hn := hg1
 refine Go1 5 2 (.bool false) <| Dn <| Rt1 rfl rfl ?_
 exact ⟨by unfold ruleB; rw [hn]; rfl, (hH.sb sln).fresh⟩
theorem PRuleC_ct (r : Rv) (c : Zone) (w : World) (hok : RvOk c r) (hc : c.le w.cell?) :
    Fun Tryz.prog 234 [.agg (rvC r).toArray] w fun v w' => v = .bool (!(ruleB r)) ∧ Fresh w w' [] := by
 refine fun_of_sw Tryz.func234 rfl 6 rfl rfl ?_
 have hH := Hp.start w
 refine sw_sr <| gl_st (Bx [.string (bs r.name), .int .i64 r.body.kind, .string (bs r.body.text), .int .u64 ((r.body.cl.a : Nat) : Int), .int .u64 ((r.body.cl.b : Nat) : Int), .int .u64 ((r.body.cl.c : Nat) : Int), .int .u64 ((r.body.cl.d : Nat) : Int), .slice r.body.A r.body.subs.length r.body.cap, .int .i64 r.body.pos, .int .i64 r.pos] rfl hH ?_)
 clear hH; intro b1 w2 hH
 refine Go0 1 <| Dn <| sw_sr <| Gq rfl (La 0 [.string (bs r.name), .int .i64 r.body.kind, .string (bs r.body.text), .int .u64 ((r.body.cl.a : Nat) : Int), .int .u64 ((r.body.cl.b : Nat) : Int), .int .u64 ((r.body.cl.c : Nat) : Int), .int .u64 ((r.body.cl.d : Nat) : Int), .slice r.body.A r.body.subs.length r.body.cap, .int .i64 r.body.pos, .int .i64 r.pos] hH rfl rfl) <| gl_st (Sc rfl rfl (PRule_ct r c _ hok (hc.trans hH.zin)) ?_)
 rintro _ w3 ⟨rfl, hF4⟩
 replace hH := hH.call hF4
 refine Go1 2 2 (.bool (!(ruleB r))) <| Dn <| Rt1 rfl rfl ?_
 exact ⟨rfl, (hH.sb sln).fresh⟩
theorem PRank_ct (k : Int) (w : World) :
    Fun Tryz.prog 279 [.int .i64 k] w fun v w' => v = .int .i64 ((rankF k : Nat) : Int) ∧ Fresh w w' [] := by
 refine fun_of_sw Tryz.func279 rfl 25 rfl rfl ?_
 have hH := Hp.start w
 refine sw_sr <| Go0 1 <| Dn <| sw_sr <| Go1 1 3 (.int .i64 0) <| Dn <| sw_seq <| sw_sr <| Go1 1 4 (.int .i64 k) <| Dn <| sw_block <| sw_seq <| sw_block <| sw_seq <| sw_block <| sw_seq <| sw_block <| sw_seq <| sw_block <| sw_seq <| sw_block <| sw_seq <| sw_seq <| sw_seq <| sw_sr <| Go1 2 5 (.bool ((k : Int) == (8 : Int))) <| Dn <| sw_cond rfl rfl (fun hc1 => ?_) (fun hc1 => ?_)
 refine sw_cv 5 (.bool true) (by rw [hc1]) rfl ?_
 try simp only [beq_iff_eq] at hc1
 have hk8 : k = 8 := hc1
 refine Sk <| It <| sw_exit <| thX <| thX <| bkX rfl <| thX <| bkH <| sw_next <| sw_region <| Gw0 2 19 (0 + 1) 1 <| Go1 1 3 (.int .i64 1) <| Dd <| bkN <| sw_next <| sw_region <| Gw0 2 21 (1 + 1) 2 <| Go1 1 3 (.int .i64 2) <| Dd <| bkN <| sw_next <| sw_region <| Gw0 2 23 (2 + 1) 3 <| Go1 1 3 (.int .i64 3) <| Dd <| bkN <| sw_next <| sw_exit <| bkH <| sw_next <| sw_sr <| Go1 2 2 (.int .i64 3) <| Dn <| Rt1 rfl rfl ?_
 exact ⟨by rw [show rankF k = 3 from by rw [hk8]; rfl]; rfl, (hH.sb sln).fresh⟩
 refine sw_cv 5 (.bool false) (by rw [hc1]) rfl ?_
 try simp only [beq_eq_false_iff_ne, ne_eq] at hc1
 have hk8 : ¬ k = 8 := hc1
 refine sw_sr <| Go1 2 5 (.bool ((k : Int) == (9 : Int))) <| Dn <| sw_cond rfl rfl (fun hc3 => ?_) (fun hc3 => ?_)
 refine sw_cv 5 (.bool true) (by rw [hc3]) rfl ?_
 try simp only [beq_iff_eq] at hc3
 have hk9 : k = 9 := hc3
 refine Sk <| It <| sw_exit <| thX <| thX <| bkX rfl <| thX <| bkH <| sw_next <| sw_region <| Gw0 2 19 (0 + 1) 1 <| Go1 1 3 (.int .i64 1) <| Dd <| bkN <| sw_next <| sw_region <| Gw0 2 21 (1 + 1) 2 <| Go1 1 3 (.int .i64 2) <| Dd <| bkN <| sw_next <| sw_region <| Gw0 2 23 (2 + 1) 3 <| Go1 1 3 (.int .i64 3) <| Dd <| bkN <| sw_next <| sw_exit <| bkH <| sw_next <| sw_sr <| Go1 2 2 (.int .i64 3) <| Dn <| Rt1 rfl rfl ?_
 exact ⟨by rw [show rankF k = 3 from by rw [hk9]; rfl]; rfl, (hH.sb sln).fresh⟩
 refine sw_cv 5 (.bool false) (by rw [hc3]) rfl ?_
 try simp only [beq_eq_false_iff_ne, ne_eq] at hc3
 have hk9 : ¬ k = 9 := hc3
 refine sw_region <| Go1 2 5 (.bool ((k : Int) == (10 : Int))) <| Dd <| sw_next <| sw_cond rfl rfl (fun hc5 => ?_) (fun hc5 => ?_)
 refine sw_cv 5 (.bool true) (by rw [hc5]) rfl ?_
 try simp only [beq_iff_eq] at hc5
 have hk10 : k = 10 := hc5
 refine sw_exit <| thX <| thX <| bkX rfl <| thX <| bkH <| sw_next <| sw_region <| Gw0 2 19 (0 + 1) 1 <| Go1 1 3 (.int .i64 1) <| Dd <| bkN <| sw_next <| sw_region <| Gw0 2 21 (1 + 1) 2 <| Go1 1 3 (.int .i64 2) <| Dd <| bkN <| sw_next <| sw_region <| Gw0 2 23 (2 + 1) 3 <| Go1 1 3 (.int .i64 3) <| Dd <| bkN <| sw_next <| sw_exit <| bkH <| sw_next <| sw_sr <| Go1 2 2 (.int .i64 3) <| Dn <| Rt1 rfl rfl ?_
 exact ⟨by rw [show rankF k = 3 from by rw [hk10]; rfl]; rfl, (hH.sb sln).fresh⟩
 refine sw_cv 5 (.bool false) (by rw [hc5]) rfl ?_
 try simp only [beq_eq_false_iff_ne, ne_eq] at hc5
 have hk10 : ¬ k = 10 := hc5
 refine Sk <| sw_seq <| sw_seq <| sw_sr <| Go1 2 9 (.bool ((k : Int) == (11 : Int))) <| Dn <| sw_cond rfl rfl (fun hc6 => ?_) (fun hc6 => ?_)
 refine sw_cv 9 (.bool true) (by rw [hc6]) rfl ?_
 try simp only [beq_iff_eq] at hc6
 have hk11 : k = 11 := hc6
 refine Sk <| It <| sw_exit <| thX <| thX <| bkX rfl <| thX <| bkX rfl <| thX <| bkH <| sw_next <| sw_region <| Gw0 2 21 (0 + 1) 1 <| Go1 1 3 (.int .i64 1) <| Dd <| bkN <| sw_next <| sw_region <| Gw0 2 23 (1 + 1) 2 <| Go1 1 3 (.int .i64 2) <| Dd <| bkN <| sw_next <| sw_exit <| bkH <| sw_next <| sw_sr <| Go1 2 2 (.int .i64 2) <| Dn <| Rt1 rfl rfl ?_
 exact ⟨by rw [show rankF k = 2 from by rw [hk11]; rfl]; rfl, (hH.sb sln).fresh⟩
 refine sw_cv 9 (.bool false) (by rw [hc6]) rfl ?_
 try simp only [beq_eq_false_iff_ne, ne_eq] at hc6
 have hk11 : ¬ k = 11 := hc6
 refine sw_region <| Go1 2 9 (.bool ((k : Int) == (12 : Int))) <| Dd <| sw_next <| sw_cond rfl rfl (fun hc8 => ?_) (fun hc8 => ?_)
 refine sw_cv 9 (.bool true) (by rw [hc8]) rfl ?_
 try simp only [beq_iff_eq] at hc8
 have hk12 : k = 12 := hc8
 refine sw_exit <| thX <| thX <| bkX rfl <| thX <| bkX rfl <| thX <| bkH <| sw_next <| sw_region <| Gw0 2 21 (0 + 1) 1 <| Go1 1 3 (.int .i64 1) <| Dd <| bkN <| sw_next <| sw_region <| Gw0 2 23 (1 + 1) 2 <| Go1 1 3 (.int .i64 2) <| Dd <| bkN <| sw_next <| sw_exit <| bkH <| sw_next <| sw_sr <| Go1 2 2 (.int .i64 2) <| Dn <| Rt1 rfl rfl ?_
 exact ⟨by rw [show rankF k = 2 from by rw [hk12]; rfl]; rfl, (hH.sb sln).fresh⟩
 refine sw_cv 9 (.bool false) (by rw [hc8]) rfl ?_
 try simp only [beq_eq_false_iff_ne, ne_eq] at hc8
 have hk12 : ¬ k = 12 := hc8
 refine Sk <| sw_seq <| sw_sr <| Go1 2 12 (.bool ((k : Int) == (6 : Int))) <| Dn <| sw_cond rfl rfl (fun hc9 => ?_) (fun hc9 => ?_)
 refine sw_cv 12 (.bool true) (by rw [hc9]) rfl ?_
 try simp only [beq_iff_eq] at hc9
 have hk6 : k = 6 := hc9
 refine sw_exit <| thX <| thX <| bkX rfl <| thX <| bkX rfl <| thX <| bkX rfl <| thX <| bkH <| sw_next <| sw_region <| Gw0 2 23 (0 + 1) 1 <| Go1 1 3 (.int .i64 1) <| Dd <| bkN <| sw_next <| sw_exit <| bkH <| sw_next <| sw_sr <| Go1 2 2 (.int .i64 1) <| Dn <| Rt1 rfl rfl ?_
 exact ⟨by rw [show rankF k = 1 from by rw [hk6]; rfl]; rfl, (hH.sb sln).fresh⟩
 refine sw_cv 12 (.bool false) (by rw [hc9]) rfl ?_
 try simp only [beq_eq_false_iff_ne, ne_eq] at hc9
 have hk6 : ¬ k = 6 := hc9
 refine Sk <| sw_sr <| Go1 2 14 (.bool ((k : Int) == (7 : Int))) <| Dn <| sw_cond rfl rfl (fun hc10 => ?_) (fun hc10 => ?_)
 refine sw_cv 14 (.bool true) (by rw [hc10]) rfl ?_
 try simp only [beq_iff_eq] at hc10
 have hk7 : k = 7 := hc10
 refine sw_exit <| thX <| bkX rfl <| thX <| bkX rfl <| thX <| bkX rfl <| thX <| bkX rfl <| thX <| bkH <| sw_next <| sw_exit <| bkH <| sw_next <| sw_sr <| Go1 2 2 (.int .i64 0) <| Dn <| Rt1 rfl rfl ?_
 exact ⟨by rw [show rankF k = 0 from by rw [hk7]; rfl]; rfl, (hH.sb sln).fresh⟩
 refine sw_cv 14 (.bool false) (by rw [hc10]) rfl ?_
 try simp only [beq_eq_false_iff_ne, ne_eq] at hc10
 have hk7 : ¬ k = 7 := hc10
 refine Sk <| sw_exit <| bkH <| sw_next <| sw_region <| Gw0 2 17 (0 + 1) 1 <| Go1 1 3 (.int .i64 1) <| Dd <| bkN <| sw_next <| sw_region <| Gw0 2 19 (1 + 1) 2 <| Go1 1 3 (.int .i64 2) <| Dd <| bkN <| sw_next <| sw_region <| Gw0 2 21 (2 + 1) 3 <| Go1 1 3 (.int .i64 3) <| Dd <| bkN <| sw_next <| sw_region <| Gw0 2 23 (3 + 1) 4 <| Go1 1 3 (.int .i64 4) <| Dd <| bkN <| sw_next <| sw_exit <| bkH <| sw_next <| sw_sr <| Go1 2 2 (.int .i64 4) <| Dn <| Rt1 rfl rfl ?_
 exact ⟨by rw [show rankF k = 4 from by unfold rankF; rw [if_neg hk7, if_neg hk6, if_neg (by omega), if_neg (by omega)]]; rfl, (hH.sb sln).fresh⟩
theorem PWideS_ct (g n cap : Nat) (A : Option Addr) (w : World) (h1 : w.cell? ⟨g, 1, none⟩ = some (.slice A n cap)) :
    Fun Tryz.prog 237 [.pointer (some ⟨g, 0, none⟩)] w fun x w' => x = .bool (decide (((n : Nat) : Int) > (8192 : Int))) ∧ Fresh w w' [] := by
 refine fun_of_sw Tryz.func237 rfl 8 rfl rfl ?_
 have hH := Hp.start w
 refine sw_sr <| Go0 1 <| Dn <| sw_sr <| Go1 3 5 (.pointer (some ⟨g, 0, none⟩)) <| gl_st (Sc rfl rfl (BLenS_ct g n cap A _ (hH.zin _ _ h1)) ?_)
 rintro _ w1 ⟨rfl, hF2⟩
 replace hH := hH.call hF2
 refine Go1 2 2 (.bool (decide ((n : Int) > (8192 : Int)))) <| Dn <| Rt1 rfl rfl ?_
 exact ⟨rfl, (hH.sb sln).fresh⟩
theorem PWide_ct (g n : Nat) (v : Value) (w : World) (h1 : w.cell? ⟨g, 1, none⟩ = some v) (hf : ∃ A cap, v = .slice A n cap) : Fun Tryz.prog 237 [Pp g 0] w fun x w' => x = .bool (decide (((n : Nat) : Int) > (8192 : Int))) ∧ Fresh w w' [] := by
  obtain ⟨A, cap, rfl⟩ := hf
  exact PWideS_ct g n cap A w h1
abbrev pgM (g : Nat) (a v : Value) (l : List UInt8) : List Own := [.blk g 320 [a, v], .row v 5 1 l.length (bv l)]
def PExC (t : Tv) : Prop := ∀ (g : Nat) (a v : Value) (l : List UInt8) (c : Zone) (w : World), AdB a g → TvOk c t → okNd t.nd = true → l.length + 2400 * t.size ≤ 70368744177664 → c.le (off w (blksOf (pgM g a v l))) → Mine w (pgM g a v l) →
  Fun Tryz.prog 236 [Pp g 0, .agg (tvC t).toArray] w fun x w' => ∃ a2 v2, x = .tuple #[] ∧ AdB a2 g ∧ Turn w w' (pgM g a v l) (pgM g a2 v2 (exprF t.nd l))
abbrev rwM (t : Tv) (nb pb g : Nat) (a v : Value) (l : List UInt8) : List Own := [.blk nb 41 (tvC t), .blk pb 336 [Pp g 0], .blk g 320 [a, v], .row v 5 1 l.length (bv l)]

theorem PPart_ct (t : Tv) (h : PExC t) (least g : Nat) (a v : Value) (l : List UInt8) (c : Zone) (w : World) (hA : AdB a g) (hok : TvOk c t) (hnd : okNd t.nd = true) (hb : l.length + 2400 * t.size + 10 ≤ 70368744177664) (hc : c.le (off w (blksOf (pgM g a v l)))) (hM : Mine w (pgM g a v l)) :
    Fun Tryz.prog 265 [Pp g 0, .agg (tvC t).toArray, .int .i64 ((least : Nat) : Int)] w fun x w' => ∃ a2 v2, x = .tuple #[] ∧ AdB a2 g ∧ Turn w w' (pgM g a v l) (pgM g a2 v2 (partF least t.nd l)) := by
 refine fun_of_sw Tryz.func265 rfl 25 rfl rfl ?_
 have hH := (Hp.start_mine hM).zsub hc
 have hel := exprF_len t.nd (l ++ [40]) hnd
 rw [Tv.nd_size, List.length_append, List.length_singleton] at hel
 refine sw_sr <| gl_st (Bx [.int .i64 t.kind, .string (bs t.text), .int .u64 ((t.cl.a : Nat) : Int), .int .u64 ((t.cl.b : Nat) : Int), .int .u64 ((t.cl.c : Nat) : Int), .int .u64 ((t.cl.d : Nat) : Int), .slice t.A t.subs.length t.cap, .int .i64 t.pos] rfl hH ?_)
 clear hH; intro b1 w2 hH
 refine Dn <| sw_seq <| sw_sr <| Go1 1 6 (Pp b1 0) <| Gq rfl (Lk 2 hH rfl rfl rfl) <| gl_st (Sc rfl rfl (PRank_ct t.kind _) ?_)
 rintro _ w3 ⟨rfl, hF4⟩
 replace hH := hH.call hF4
 refine Go1 2 10 (.bool (decide (((rankF t.kind : Nat) : Int) ≥ (least : Int)))) <| Dn <| If rfl (fun hc1 => ?_) (fun hc1 => ?_)
 have hr : least ≤ rankF t.kind := by have := hc1; omega
 refine sw_sr <| Go1 1 11 (Pp g 0) <| Gq rfl (La 2 [.int .i64 t.kind, .string (bs t.text), .int .u64 ((t.cl.a : Nat) : Int), .int .u64 ((t.cl.b : Nat) : Int), .int .u64 ((t.cl.c : Nat) : Int), .int .u64 ((t.cl.d : Nat) : Int), .slice t.A t.subs.length t.cap, .int .i64 t.pos] hH rfl rfl) ?_
 replace hH : Hp w w3 _ _ ([_, _] ++ [_]) := hH
 refine gl_st (Sc rfl rfl (h g (a) v l c _ hA hok hnd (by omega) hH.zoff hH.mine) ?_)
 rintro _ w8 ⟨a5, v6, rfl, ha7, hF9⟩
 replace hH := hH.turns hF9
 replace hH := hH.n3
 refine Dn <| Rt0 rfl ?_
 replace hH := hH.fr3.fr3
 replace hH := (hH.sb (slk (slk sln))).n2
 exact ⟨a5, v6, rfl, ha7, by unfold partF; rw [Tv.nd_kind, if_pos hr]; exact hH.turned⟩
 have hr : ¬ least ≤ rankF t.kind := by have := hc1; omega
 refine Sk <| sw_sr <| Go1 3 16 (Pp g 0) ?_
 replace hH : Hp w w3 _ _ ([_, _] ++ [_]) := hH
 refine gl_st (Sc rfl rfl (WriteByte_ct g 320 (a) v l 40 _ hA hH.mine lies_pg (by omega) (by omega)) ?_)
 rintro _ w11 ⟨v10, rfl, hF12⟩
 replace hH := hH.turns hF12
 replace hH := hH.n3
 refine Dn <| sw_sr <| Go1 1 18 (Pp g 0) <| Gq rfl (La 0 [.int .i64 t.kind, .string (bs t.text), .int .u64 ((t.cl.a : Nat) : Int), .int .u64 ((t.cl.b : Nat) : Int), .int .u64 ((t.cl.c : Nat) : Int), .int .u64 ((t.cl.d : Nat) : Int), .slice t.A t.subs.length t.cap, .int .i64 t.pos] hH rfl rfl) ?_
 replace hH : Hp w w11 _ _ ([_, _] ++ [_]) := hH.fr3.fr3
 refine gl_st (Sc rfl rfl (h g (Pp g 0) v10 (l ++ [UInt8.ofNat 40]) c _ (.inr rfl) hok hnd (by rw [List.length_append, List.length_singleton]; omega) hH.zoff hH.mine) ?_)
 rintro _ w16 ⟨a13, v14, rfl, ha15, hF17⟩
 replace hH := hH.turns hF17
 replace hH := hH.n3
 refine Dn <| sw_region <| Go1 3 23 (Pp g 0) ?_
 replace hH : Hp w w16 _ _ ([_, _] ++ [_]) := hH.fr3.fr3
 refine gl_st (Sc rfl rfl (WriteByte_ct g 320 (a13) v14 (exprF t.nd (l ++ [UInt8.ofNat 40])) 41 _ ha15 hH.mine lies_pg (by omega) (by show (exprF t.nd (l ++ [40])).length + 1 ≤ _; omega)) ?_)
 rintro _ w19 ⟨v18, rfl, hF20⟩
 replace hH := hH.turns hF20
 replace hH := hH.n3
 refine Dd <| end0 rfl ?_
 replace hH := hH.fr3.fr3
 replace hH := (hH.sb (slk (slk sln))).n2
 exact ⟨Pp g 0, v18, rfl, (.inr rfl), by unfold partF; rw [Tv.nd_kind, if_neg hr]; exact hH.turned⟩
theorem PRow_ct (t : Tv) (IH : ∀ x ∈ t.subs, PExC x) (btw : List UInt8) (least nb pb g : Nat) (a v : Value) (l : List UInt8) (c : Zone) (w : World) (hA : AdB a g) (hok : TvOk c t) (hnd : ∀ x ∈ t.subs, okNd x.nd = true) (hbt : btw.length ≤ 3) (hb : l.length + 2400 * Tv.sizes t.subs + 20 ≤ 70368744177664) (hc : c.le (off w (blksOf (rwM t nb pb g a v l)))) (hM : Mine w (rwM t nb pb g a v l)) :
    Fun Tryz.prog 264 [.string (bs btw), .int .i64 ((least : Nat) : Int), Pp nb 0, Pp pb 0] w fun x w' => ∃ a2 v2, x = .tuple #[] ∧ AdB a2 g ∧ Turn w w' (rwM t nb pb g a v l) (rwM t nb pb g a2 v2 (rowF (Tv.nds t.subs) btw least true l)) := by
 obtain ⟨Ax, cx, hx9, hx1, hx2⟩ := hok.row.form
 have hml : maxLen ≤ 9223372036854775807 := by unfold maxLen; decide
 refine fun_of_sw Tryz.func264 rfl 28 rfl rfl ?_
 have hH := (Hp.start_mine hM).zsub hc
 refine sw_sr <| Go1 1 8 (Pp nb 6) <| Gq rfl (Lk 0 hH rfl rfl rfl) <| Gq rfl (Ln (e := 41) rfl) <| Go1 1 11 (.int .i64 0) <| Dn <| sw_block <| Lp (γ := Nat × Value × Value × List UInt8) hH (fun (i, aN, vN, acc) => [(0, .string (bs btw)), (1, Ni least), (3, Pp pb 0), (9, .slice t.A t.subs.length t.cap), (10, Ni t.subs.length), (11, Ni i)]) (fun (i, aN, vN, acc) w_ H_ => (rowF (Tv.nds t.subs) btw least true l = rowF (Tv.nds (t.subs.drop i)) btw least (decide (i = 0)) acc) ∧ (AdB aN g) ∧ (i ≤ t.subs.length) ∧ (acc.length + 2400 * Tv.sizes (t.subs.drop i) + 20 ≤ 70368744177664) ∧ H_ [.blk nb 41 [.int .i64 t.kind, .string (bs t.text), .int .u64 ((t.cl.a : Nat) : Int), .int .u64 ((t.cl.b : Nat) : Int), .int .u64 ((t.cl.c : Nat) : Int), .int .u64 ((t.cl.d : Nat) : Int), .slice t.A t.subs.length t.cap, .int .i64 t.pos], .blk pb 336 [Pp g 0], .blk g 320 [aN, vN], .row vN 5 1 acc.length (bv acc)]) (fun (i, aN, vN, acc) => t.subs.length - i) (0, a, v, l) ?_ ?_
 · exact ⟨rfl, hA, Nat.zero_le _, hb, hH⟩
 clear hH
 rintro ⟨i, aN, vN, acc⟩ w1 ⟨hm, haN, hi, hbN, hH⟩
 refine swk [(0, .string (bs btw)), (1, Ni least), (3, Pp pb 0), (9, .slice t.A t.subs.length t.cap), (10, Ni t.subs.length), (11, Ni i)] <| sw_sr <| Go1 1 12 (.bool (decide ((i : Int) < ((t.subs.length : Nat) : Int)))) <| Dn <| sw_seq <| If rfl (fun hc1 => ?_) (fun hc1 => ?_)
 refine Sk <| sw_seq <| sw_block ?_
 obtain ⟨x, hx⟩ : ∃ x, t.subs[i]? = some x := ⟨_, List.getElem?_eq_getElem (by omega)⟩
 have hxm := List.mem_of_getElem? hx
 have hsz := Tv.sizes_at hx
 refine sw_sr ?_
 obtain ⟨p2, hi4, hp3⟩ := hok.row.idx i (by omega) (by decide)
 refine Go1 1 13 (Ni i) <| Gq rfl (Ix (e := 41) 8 rfl rfl hi4) <| Gq rfl (rd_loadZA (by kernel_rfl) hH hp3 rfl 0 rfl [.int .i64 x.kind, .string (bs x.text), .int .u64 ((x.cl.a : Nat) : Int), .int .u64 ((x.cl.b : Nat) : Int), .int .u64 ((x.cl.c : Nat) : Int), .int .u64 ((x.cl.d : Nat) : Int), .slice x.A x.subs.length x.cap, .int .i64 x.pos] (by kernel_rfl) (rowC_all tvC_len hx 0 _ rfl)) <| gl_st (Alc [.int .i64 0, .string (bs []), .int .u64 0, .int .u64 0, .int .u64 0, .int .u64 0, .slice none 0 0, .int .i64 0] rfl hH ?_)
 clear hH; intro b5 w6 hH
 refine Go1 1 6 (Ni i) <| gl_st (Ka 4 [.int .i64 x.kind, .string (bs x.text), .int .u64 ((x.cl.a : Nat) : Int), .int .u64 ((x.cl.b : Nat) : Int), .int .u64 ((x.cl.c : Nat) : Int), .int .u64 ((x.cl.d : Nat) : Int), .slice x.A x.subs.length x.cap, .int .i64 x.pos] [.int .i64 x.kind, .string (bs x.text), .int .u64 ((x.cl.a : Nat) : Int), .int .u64 ((x.cl.b : Nat) : Int), .int .u64 ((x.cl.c : Nat) : Int), .int .u64 ((x.cl.d : Nat) : Int), .slice x.A x.subs.length x.cap, .int .i64 x.pos] rfl hH rfl rfl ?_)
 clear hH; intro w7 hH
 refine Dn <| sw_seq <| sw_sr <| Go1 2 17 (.bool (decide ((i : Int) > (0 : Int)))) <| Dn <| If rfl (fun hc2 => ?_) (fun hc2 => ?_)
 refine sw_region <| Gq rfl (Lk 1 hH rfl rfl rfl) <| Go2 3 20 (Pp g 0) 21 (.string (bs btw)) ?_
 replace hH : Hp w w7 _ _ ([_, _] ++ [_, _, _]) := hH.fr4.fr4
 refine gl_st (Sc rfl rfl (WriteString_ct g 320 (aN) vN acc btw _ haN hH.mine lies_pg (by omega)) ?_)
 rintro _ w9 ⟨v8, rfl, hF10⟩
 replace hH := hH.turns hF10
 replace hH := hH.n5
 refine Dd <| sw_next <| sw_region <| Gq rfl (Lk 1 hH rfl rfl rfl) <| Gq rfl (La 2 [.int .i64 x.kind, .string (bs x.text), .int .u64 ((x.cl.a : Nat) : Int), .int .u64 ((x.cl.b : Nat) : Int), .int .u64 ((x.cl.c : Nat) : Int), .int .u64 ((x.cl.d : Nat) : Int), .slice x.A x.subs.length x.cap, .int .i64 x.pos] hH rfl rfl) ?_
 have hpl := partF_len (n := x.nd) (acc ++ btw) least (hnd x hxm)
 rw [Tv.nd_size, List.length_append] at hpl
 refine Go1 1 25 (Ni least) ?_
 replace hH : Hp w w9 _ _ ([_, _] ++ [_, _, _]) := hH.fr5.fr5
 refine gl_st (Sc rfl rfl (PPart_ct x (IH x hxm) least g (Pp g 0) v8 (acc ++ btw) c _ (.inr rfl) (hok.subs x hxm) (hnd x hxm) (by rw [List.length_append]; omega) hH.zoff hH.mine) ?_)
 rintro _ w14 ⟨a11, v12, rfl, ha13, hF15⟩
 replace hH := hH.turns hF15
 replace hH := hH.n5
 refine Dd <| bkN <| sw_next <| sw_region <| Gw0 1 27 ((i : Int) + 1) ((i + 1 : Nat) : Int) <| Go1 1 11 (Ni (i + 1)) <| Dd <| rnd_end (g := (i, aN, vN, acc)) (i + 1, a11, v12, partF least x.nd (acc ++ btw)) (by kernel_rfl) ?_ ?_
 replace hH := hH.fr5.fr5.fr4.fr4
 replace hH := (hH.sb (slk (slk (slk (slk sln))))).n4
 · exact ⟨(by rw [hm, rowF_at hx, show decide (i = 0) = false from decide_eq_false (by omega), show decide (i + 1 = 0) = false from rfl]; rfl), ha13, by omega, (by omega), hH⟩
 · show t.subs.length - (i + 1) < t.subs.length - i; omega
 refine Sk <| sw_region <| Gq rfl (Lk 1 hH rfl rfl rfl) <| Gq rfl (La 4 [.int .i64 x.kind, .string (bs x.text), .int .u64 ((x.cl.a : Nat) : Int), .int .u64 ((x.cl.b : Nat) : Int), .int .u64 ((x.cl.c : Nat) : Int), .int .u64 ((x.cl.d : Nat) : Int), .slice x.A x.subs.length x.cap, .int .i64 x.pos] hH rfl rfl) ?_
 have hpl := partF_len (n := x.nd) acc least (hnd x hxm)
 rw [Tv.nd_size] at hpl
 refine Go1 1 25 (Ni least) ?_
 replace hH : Hp w w7 _ _ ([_, _] ++ [_, _, _]) := hH.fr4.fr4
 refine gl_st (Sc rfl rfl (PPart_ct x (IH x hxm) least g (aN) vN acc c _ haN (hok.subs x hxm) (hnd x hxm) (by omega) hH.zoff hH.mine) ?_)
 rintro _ w19 ⟨a16, v17, rfl, ha18, hF20⟩
 replace hH := hH.turns hF20
 replace hH := hH.n5
 refine Dd <| bkN <| sw_next <| sw_region <| Gw0 1 27 ((i : Int) + 1) ((i + 1 : Nat) : Int) <| Go1 1 11 (Ni (i + 1)) <| Dd <| rnd_end (g := (i, aN, vN, acc)) (i + 1, a16, v17, partF least x.nd acc) (by kernel_rfl) ?_ ?_
 replace hH := hH.fr5.fr5.fr4.fr4
 replace hH := (hH.sb (slk (slk (slk (slk sln))))).n4
 · exact ⟨(by rw [hm, rowF_at hx, show decide (i = 0) = true from decide_eq_true (by omega), show decide (i + 1 = 0) = false from rfl]; rfl), ha18, by omega, (by omega), hH⟩
 · show t.subs.length - (i + 1) < t.subs.length - i; omega
 refine sw_exit <| thX <| thX <| bkH <| end0 rfl ?_
 replace hH := (hH.sb (slk (slk (slk (slk sln))))).n4
 exact ⟨aN, vN, rfl, haN, by rw [hm, List.drop_eq_nil_of_le (by omega)]; exact hH.turned⟩
end Go.Proofs.YtllfpnbhjfadiaaGreatDoor
/- Layer 5 (printer): an expression is written: what the program's function answers. -/
set_option maxRecDepth 100000
set_option maxHeartbeats 2000000
set_option linter.unusedVariables false
set_option linter.unusedSimpArgs false
namespace Go.Proofs.YtllfpnbhjfadiaaGreatDoor
open Go.RowKit Go.SW

theorem PExpr_step (t : Tv) (IH : ∀ x ∈ t.subs, PExC x) : PExC t := by
 intro g a v l c w hA hok hnd hb hc hM
 have hpa := okNd_parts hnd
 have hkk := okHd_kind hpa.1
 have htx := okHd_text hpa.1
 have hql := quoteL_len t.text
 have htc := textC_len t.cl
 have hsz := Tv.size_subs t
 refine fun_of_sw Tryz.func236 rfl 79 rfl rfl ?_
 have hH := (Hp.start_mine hM).zsub hc
 refine sw_sr <| gl_st (Bx [Pp g 0] rfl hH ?_)
 clear hH; intro b1 w2 hH
 refine gl_st (Bx [.int .i64 t.kind, .string (bs t.text), .int .u64 ((t.cl.a : Nat) : Int), .int .u64 ((t.cl.b : Nat) : Int), .int .u64 ((t.cl.c : Nat) : Int), .int .u64 ((t.cl.d : Nat) : Int), .slice t.A t.subs.length t.cap, .int .i64 t.pos] rfl hH ?_)
 clear hH; intro b3 w4 hH
 refine Dn <| sw_sr <| Go1 2 4 (.func (.func 264) #[] #[Pp b3 0, Pp b1 0]) <| Dn <| sw_seq <| sw_sr <| Gq rfl (Lk 2 hH rfl rfl rfl) <| gl_st (Sc rfl rfl (PWide_ct g l.length v _ (hH.blk_cell 0 rfl rfl) (by obtain ⟨A9, c9, h9, _⟩ := hH.row_form 1 rfl; exact ⟨A9, c9, h9⟩)) ?_)
 rintro _ w5 ⟨rfl, hF6⟩
 replace hH := hH.call hF6
 refine Dn <| sw_cond rfl rfl (fun hc1 => ?_) (fun hc1 => ?_)
 refine sw_cv 7 (.bool true) (by rw [hc1]) rfl ?_
 try simp only [decide_eq_true_eq] at hc1
 have hw : 8192 < l.length := by have := hc1; omega
 refine Rt0 rfl ?_
 replace hH := (hH.sb (slk (slk sln))).n2
 exact ⟨a, v, rfl, hA, by rw [exprF_eq, if_pos hw]; exact hH.turned⟩
 refine sw_cv 7 (.bool false) (by rw [hc1]) rfl ?_
 try simp only [decide_eq_false_iff_not, Int.not_lt, Int.not_le] at hc1
 have hw : ¬ 8192 < l.length := by have := hc1; omega
 refine Sk <| sw_sr <| Go1 1 8 (Pp b3 0) <| Gq rfl (Lk 3 hH rfl rfl rfl) <| Dn <| sw_block <| sw_sr <| Go1 2 20 (.bool ((t.kind : Int) == (1 : Int))) <| Dn <| sw_cond rfl rfl (fun hc2 => ?_) (fun hc2 => ?_)
 refine sw_cv 20 (.bool true) (by rw [hc2]) rfl ?_
 try simp only [beq_iff_eq] at hc2
 have hk1 : t.kind = 1 := hc2
 refine sw_region <| Gq rfl (Lk 2 hH rfl rfl rfl) <| Go1 2 24 (Pp g 0) ?_
 replace hH : Hp w w5 _ _ ([_, _] ++ [_, _]) := hH
 refine gl_st (Sc rfl rfl (WriteString_ct g 320 (a) v l [40, 41] _ hA hH.mine lies_pg (by simp only [List.length_cons, List.length_nil]; omega)) ?_)
 rintro _ w8 ⟨v7, rfl, hF9⟩
 replace hH := hH.turns hF9
 replace hH := hH.n4
 refine Dd <| bkN <| end0 rfl ?_
 replace hH := hH.fr4.fr4
 replace hH := (hH.sb (slk (slk sln))).n2
 exact ⟨Pp g 0, v7, rfl, (.inr rfl), by rw [exprF_eq, if_neg hw, if_pos hk1]; exact hH.turned⟩
 refine sw_cv 20 (.bool false) (by rw [hc2]) rfl ?_
 try simp only [beq_eq_false_iff_ne, ne_eq] at hc2
 have hk1 : ¬ t.kind = 1 := hc2
 refine sw_sr <| Go1 2 26 (.bool ((t.kind : Int) == (2 : Int))) <| Dn <| sw_cond rfl rfl (fun hc3 => ?_) (fun hc3 => ?_)
 refine sw_cv 26 (.bool true) (by rw [hc3]) rfl ?_
 try simp only [beq_iff_eq] at hc3
 have hk2 : t.kind = 2 := hc3
 refine Dr hH (slc (slc (slk (slk sln)))) ?_
 clear hH; intro w10 hH hS9
 refine Dq 0 rfl (fun _ hS => (Lk 0 hS rfl rfl rfl)) hS9 <| Gp2 3 [1,2,3] 30 (Pp g 0) 31 (Pp b3 1) hS9 <| Dq 4 rfl (fun _ hS => (Lk 1 hS rfl rfl rfl)) hS9 <| gds 5 (Sc rfl rfl (LQuote_ct t.text _ (by omega)) ?_)
 rintro _ w11 ⟨rfl, hF12⟩
 replace hH := hH.call hF12
 refine Nl (hH.sb (slc (slc (slk (slk sln))))) fun hS9 => ?_
 replace hH : Hp w w11 _ _ ([_, _] ++ [_, _]) := hH
 refine gds 6 (Sc rfl rfl (WriteString_ct g 320 (a) v l (quoteL t.text) _ hA hH.mine lies_pg (by omega)) ?_)
 rintro _ w14 ⟨v13, rfl, hF15⟩
 replace hH := hH.turns hF15
 replace hH := hH.n4
 refine Nl (hH.sb (slk (slk sln))) fun hS9 => gdn [] <| bkN <| end0 rfl ?_
 replace hH := hH.fr4.fr4
 replace hH := (hH.sb (slk (slk sln))).n2
 exact ⟨Pp g 0, v13, rfl, (.inr rfl), by rw [exprF_eq, if_neg hw, if_neg hk1, if_pos hk2]; exact hH.turned⟩
 refine sw_cv 26 (.bool false) (by rw [hc3]) rfl ?_
 try simp only [beq_eq_false_iff_ne, ne_eq] at hc3
 have hk2 : ¬ t.kind = 2 := hc3
 refine sw_sr <| Go1 2 35 (.bool ((t.kind : Int) == (3 : Int))) <| Dn <| sw_cond rfl rfl (fun hc4 => ?_) (fun hc4 => ?_)
 refine sw_cv 35 (.bool true) (by rw [hc4]) rfl ?_
 try simp only [beq_iff_eq] at hc4
 have hk3 : t.kind = 3 := hc4
 refine Dr hH (slc (slc (slk (slk sln)))) ?_
 clear hH; intro w16 hH hS9
 refine Dq 0 rfl (fun _ hS => (Lk 0 hS rfl rfl rfl)) hS9 <| Gp2 3 [1,2,3] 39 (Pp g 0) 40 (Pp b3 2) hS9 <| Dq 4 rfl (fun _ hS => (La 1 [.int .u64 ((t.cl.a : Nat) : Int), .int .u64 ((t.cl.b : Nat) : Int), .int .u64 ((t.cl.c : Nat) : Int), .int .u64 ((t.cl.d : Nat) : Int)] hS rfl rfl)) hS9 <| gds 5 (Sc rfl rfl (CText_ct t.cl _ hok.cls) ?_)
 rintro _ w17 ⟨rfl, hF18⟩
 replace hH := hH.call hF18
 refine Nl (hH.sb (slc (slc (slk (slk sln))))) fun hS9 => ?_
 replace hH : Hp w w17 _ _ ([_, _] ++ [_, _]) := hH
 refine gds 6 (Sc rfl rfl (WriteString_ct g 320 (a) v l (textC t.cl) _ hA hH.mine lies_pg (by omega)) ?_)
 rintro _ w20 ⟨v19, rfl, hF21⟩
 replace hH := hH.turns hF21
 replace hH := hH.n4
 refine Nl (hH.sb (slk (slk sln))) fun hS9 => gdn [] <| bkN <| end0 rfl ?_
 replace hH := hH.fr4.fr4
 replace hH := (hH.sb (slk (slk sln))).n2
 exact ⟨Pp g 0, v19, rfl, (.inr rfl), by rw [exprF_eq, if_neg hw, if_neg hk1, if_neg hk2, if_pos hk3]; exact hH.turned⟩
 refine sw_cv 35 (.bool false) (by rw [hc4]) rfl ?_
 try simp only [beq_eq_false_iff_ne, ne_eq] at hc4
 have hk3 : ¬ t.kind = 3 := hc4
 refine sw_sr <| Go1 2 44 (.bool ((t.kind : Int) == (4 : Int))) <| Dn <| sw_cond rfl rfl (fun hc5 => ?_) (fun hc5 => ?_)
 refine sw_cv 44 (.bool true) (by rw [hc5]) rfl ?_
 try simp only [beq_iff_eq] at hc5
 have hk4 : t.kind = 4 := hc5
 refine sw_region <| Gq rfl (Lk 2 hH rfl rfl rfl) <| Go1 2 48 (Pp g 0) ?_
 replace hH : Hp w w5 _ _ ([_, _] ++ [_, _]) := hH
 refine gl_st (Sc rfl rfl (WriteByte_ct g 320 (a) v l 46 _ hA hH.mine lies_pg (by omega) (by omega)) ?_)
 rintro _ w23 ⟨v22, rfl, hF24⟩
 replace hH := hH.turns hF24
 replace hH := hH.n4
 refine Dd <| bkN <| end0 rfl ?_
 replace hH := hH.fr4.fr4
 replace hH := (hH.sb (slk (slk sln))).n2
 exact ⟨Pp g 0, v22, rfl, (.inr rfl), by rw [exprF_eq, if_neg hw, if_neg hk1, if_neg hk2, if_neg hk3, if_pos hk4]; exact hH.turned⟩
 refine sw_cv 44 (.bool false) (by rw [hc5]) rfl ?_
 try simp only [beq_eq_false_iff_ne, ne_eq] at hc5
 have hk4 : ¬ t.kind = 4 := hc5
 refine sw_sr <| Go1 2 50 (.bool ((t.kind : Int) == (5 : Int))) <| Dn <| sw_cond rfl rfl (fun hc6 => ?_) (fun hc6 => ?_)
 refine sw_cv 50 (.bool true) (by rw [hc6]) rfl ?_
 try simp only [beq_iff_eq] at hc6
 have hk5 : t.kind = 5 := hc6
 refine Dr hH (slc (slc (slk (slk sln)))) ?_
 clear hH; intro w25 hH hS9
 refine Dq 0 rfl (fun _ hS => (Lk 0 hS rfl rfl rfl)) hS9 <| Gp2 3 [1,2,3] 54 (Pp g 0) 55 (Pp b3 1) hS9 <| Dq 4 rfl (fun _ hS => (Lk 1 hS rfl rfl rfl)) hS9 ?_
 replace hH : Hp w w25 _ _ ([_, _] ++ [_, _]) := hH
 refine gds 5 (Sc rfl rfl (WriteString_ct g 320 (a) v l t.text _ hA hH.mine lies_pg (by omega)) ?_)
 rintro _ w27 ⟨v26, rfl, hF28⟩
 replace hH := hH.turns hF28
 replace hH := hH.n4
 refine Nl (hH.sb (slk (slk sln))) fun hS9 => gdn [] <| bkN <| end0 rfl ?_
 replace hH := hH.fr4.fr4
 replace hH := (hH.sb (slk (slk sln))).n2
 exact ⟨Pp g 0, v26, rfl, (.inr rfl), by rw [exprF_eq, if_neg hw, if_neg hk1, if_neg hk2, if_neg hk3, if_neg hk4, if_pos hk5]; exact hH.turned⟩
 refine sw_cv 50 (.bool false) (by rw [hc6]) rfl ?_
 try simp only [beq_eq_false_iff_ne, ne_eq] at hc6
 have hk5 : ¬ t.kind = 5 := hc6
 refine sw_sr <| Go1 2 58 (.bool ((t.kind : Int) == (7 : Int))) <| Dn <| sw_cond rfl rfl (fun hc7 => ?_) (fun hc7 => ?_)
 refine sw_cv 58 (.bool true) (by rw [hc7]) rfl ?_
 try simp only [beq_iff_eq] at hc7
 have hk7 : t.kind = 7 := hc7
 refine sw_region <| Go1 1 60 (.func (.func 264) #[] #[Pp b3 0, Pp b1 0]) ?_
 replace hH : Hp w w5 _ _ ([_, _, _, _] ++ []) := hH.fr2.fr2.fr3.fr4
 refine gl_st (st_callv rfl rfl rfl (by kernel_rfl) rfl rfl (PRow_ct t IH [32, 47, 32] 1 b3 b1 g (a) v l c _ hA hok hpa.2 (by decide) (by omega) hH.zoff hH.mine) ?_)
 rintro _ w32 ⟨a29, v30, rfl, ha31, hF33⟩
 replace hH := hH.turns hF33
 replace hH := hH.n4
 refine Dd <| bkN <| end0 rfl ?_
 replace hH := hH.fr4.fr4
 replace hH := (hH.sb (slk (slk sln))).n2
 exact ⟨a29, v30, rfl, ha31, by rw [exprF_eq, if_neg hw, if_neg hk1, if_neg hk2, if_neg hk3, if_neg hk4, if_neg hk5, if_pos hk7]; exact hH.turned⟩
 refine sw_cv 58 (.bool false) (by rw [hc7]) rfl ?_
 try simp only [beq_eq_false_iff_ne, ne_eq] at hc7
 have hk7 : ¬ t.kind = 7 := hc7
 refine sw_sr <| Go1 2 62 (.bool ((t.kind : Int) == (6 : Int))) <| Dn <| sw_cond rfl rfl (fun hc8 => ?_) (fun hc8 => ?_)
 refine sw_cv 62 (.bool true) (by rw [hc8]) rfl ?_
 try simp only [beq_iff_eq] at hc8
 have hk6 : t.kind = 6 := hc8
 refine sw_region <| Go1 1 64 (.func (.func 264) #[] #[Pp b3 0, Pp b1 0]) ?_
 replace hH : Hp w w5 _ _ ([_, _, _, _] ++ []) := hH.fr2.fr2.fr3.fr4
 refine gl_st (st_callv rfl rfl rfl (by kernel_rfl) rfl rfl (PRow_ct t IH [32] 2 b3 b1 g (a) v l c _ hA hok hpa.2 (by decide) (by omega) hH.zoff hH.mine) ?_)
 rintro _ w37 ⟨a34, v35, rfl, ha36, hF38⟩
 replace hH := hH.turns hF38
 replace hH := hH.n4
 refine Dd <| bkN <| end0 rfl ?_
 replace hH := hH.fr4.fr4
 replace hH := (hH.sb (slk (slk sln))).n2
 exact ⟨a34, v35, rfl, ha36, by rw [exprF_eq, if_neg hw, if_neg hk1, if_neg hk2, if_neg hk3, if_neg hk4, if_neg hk5, if_neg hk7, if_pos hk6]; exact hH.turned⟩
 refine sw_cv 62 (.bool false) (by rw [hc8]) rfl ?_
 try simp only [beq_eq_false_iff_ne, ne_eq] at hc8
 have hk6 : ¬ t.kind = 6 := hc8
 refine sw_seq <| sw_sr <| Go1 2 66 (.bool ((t.kind : Int) == (11 : Int))) <| Dn <| sw_cond rfl rfl (fun hc9 => ?_) (fun hc9 => ?_)
 refine sw_cv 66 (.bool true) (by rw [hc9]) rfl ?_
 try simp only [beq_iff_eq] at hc9
 have hk11 : t.kind = 11 := hc9
 refine Sk <| It <| sw_seq <| Dr hH (slc (slc (slk (slk sln)))) ?_
 clear hH; intro w39 hH hS9
 refine Dq 0 rfl (fun _ hS => (Lk 0 hS rfl rfl rfl)) hS9 <| Gp2 3 [1,2,3] 71 (Pp g 0) 72 (Pp b3 0) hS9 <| Dq 4 rfl (fun _ hS => (Lk 1 hS rfl rfl rfl)) hS9 <| Dc0 1 [5] 74 (.int .i64 (IntKind.i64.wrap (t.kind - 11))) (.int .i64 0) (by rw [hk11]; rfl) hS9 <| Dq 6 rfl (fun _ hS => (rd_sidx (by kernel_rfl) rfl 0 rfl (by decide))) hS9 <| gd_cv 75 (.int .u8 38) (rfl) rfl ?_
 replace hH : Hp w w39 _ _ ([_, _] ++ [_, _]) := hH
 refine gds 7 (Sc rfl rfl (WriteByte_ct g 320 (a) v l 38 _ hA hH.mine lies_pg (by omega) (by omega)) ?_)
 rintro _ w41 ⟨v40, rfl, hF42⟩
 replace hH := hH.turns hF42
 replace hH := hH.n4
 refine Nl (hH.sb (slk (slk sln))) fun hS9 => gdn [(4, .func (.func 264) #[] #[Pp b3 0, Pp b1 0])] <| sw_next <| sw_region <| Go1 1 77 (.func (.func 264) #[] #[Pp b3 0, Pp b1 0]) ?_
 replace hH : Hp w w41 _ _ ([_, _, _, _] ++ []) := hH.fr4.fr4.fr3.fr4
 refine gl_st (st_callv rfl rfl rfl (by kernel_rfl) rfl rfl (PRow_ct t IH [] 3 b3 b1 g (Pp g 0) v40 (l ++ [UInt8.ofNat 38]) c _ (.inr rfl) hok hpa.2 (by decide) (by rw [List.length_append, List.length_singleton]; omega) hH.zoff hH.mine) ?_)
 rintro _ w46 ⟨a43, v44, rfl, ha45, hF47⟩
 replace hH := hH.turns hF47
 replace hH := hH.n4
 refine Dd <| bkN <| end0 rfl ?_
 replace hH := hH.fr4.fr4
 replace hH := (hH.sb (slk (slk sln))).n2
 exact ⟨a43, v44, rfl, ha45, by rw [exprF_eq, if_neg hw, if_neg hk1, if_neg hk2, if_neg hk3, if_neg hk4, if_neg hk5, if_neg hk7, if_neg hk6, if_pos (.inl hk11), show (if t.kind = 11 then (38 : UInt8) else 33) = 38 from by rw [hk11]; rfl]; exact hH.turned⟩
 refine sw_cv 66 (.bool false) (by rw [hc9]) rfl ?_
 try simp only [beq_eq_false_iff_ne, ne_eq] at hc9
 have hk11 : ¬ t.kind = 11 := hc9
 refine sw_region <| Go1 2 66 (.bool ((t.kind : Int) == (12 : Int))) <| Dd <| sw_next <| sw_cond rfl rfl (fun hc11 => ?_) (fun hc11 => ?_)
 refine sw_cv 66 (.bool true) (by rw [hc11]) rfl ?_
 try simp only [beq_iff_eq] at hc11
 have hk12 : t.kind = 12 := hc11
 refine sw_seq <| Dr hH (slc (slc (slk (slk sln)))) ?_
 clear hH; intro w48 hH hS9
 refine Dq 0 rfl (fun _ hS => (Lk 0 hS rfl rfl rfl)) hS9 <| Gp2 3 [1,2,3] 71 (Pp g 0) 72 (Pp b3 0) hS9 <| Dq 4 rfl (fun _ hS => (Lk 1 hS rfl rfl rfl)) hS9 <| Dc0 1 [5] 74 (.int .i64 (IntKind.i64.wrap (t.kind - 11))) (.int .i64 1) (by rw [hk12]; rfl) hS9 <| Dq 6 rfl (fun _ hS => (rd_sidx (by kernel_rfl) rfl 1 rfl (by decide))) hS9 <| gd_cv 75 (.int .u8 33) (rfl) rfl ?_
 replace hH : Hp w w48 _ _ ([_, _] ++ [_, _]) := hH
 refine gds 7 (Sc rfl rfl (WriteByte_ct g 320 (a) v l 33 _ hA hH.mine lies_pg (by omega) (by omega)) ?_)
 rintro _ w50 ⟨v49, rfl, hF51⟩
 replace hH := hH.turns hF51
 replace hH := hH.n4
 refine Nl (hH.sb (slk (slk sln))) fun hS9 => gdn [(4, .func (.func 264) #[] #[Pp b3 0, Pp b1 0])] <| sw_next <| sw_region <| Go1 1 77 (.func (.func 264) #[] #[Pp b3 0, Pp b1 0]) ?_
 replace hH : Hp w w50 _ _ ([_, _, _, _] ++ []) := hH.fr4.fr4.fr3.fr4
 refine gl_st (st_callv rfl rfl rfl (by kernel_rfl) rfl rfl (PRow_ct t IH [] 3 b3 b1 g (Pp g 0) v49 (l ++ [UInt8.ofNat 33]) c _ (.inr rfl) hok hpa.2 (by decide) (by rw [List.length_append, List.length_singleton]; omega) hH.zoff hH.mine) ?_)
 rintro _ w55 ⟨a52, v53, rfl, ha54, hF56⟩
 replace hH := hH.turns hF56
 replace hH := hH.n4
 refine Dd <| bkN <| end0 rfl ?_
 replace hH := hH.fr4.fr4
 replace hH := (hH.sb (slk (slk sln))).n2
 exact ⟨a52, v53, rfl, ha54, by rw [exprF_eq, if_neg hw, if_neg hk1, if_neg hk2, if_neg hk3, if_neg hk4, if_neg hk5, if_neg hk7, if_neg hk6, if_pos (.inr hk12), show (if t.kind = 11 then (38 : UInt8) else 33) = 33 from by rw [hk12]; rfl]; exact hH.turned⟩
 refine sw_cv 66 (.bool false) (by rw [hc11]) rfl ?_
 try simp only [beq_eq_false_iff_ne, ne_eq] at hc11
 have hk12 : ¬ t.kind = 12 := hc11
 obtain ⟨j, hj, hj3⟩ : ∃ j : Nat, t.kind = 8 + j ∧ j < 3 := ⟨(t.kind - 8).toNat, by omega, by omega⟩
 have hgb := gb_lt [63, 42, 43] j
 refine sw_sr <| Go1 1 10 (.func (.func 264) #[] #[Pp b3 0, Pp b1 0]) ?_
 replace hH : Hp w w5 _ _ ([_, _, _, _] ++ []) := hH.fr2.fr2.fr3.fr4
 refine gl_st (st_callv rfl rfl rfl (by kernel_rfl) rfl rfl (PRow_ct t IH [] 4 b3 b1 g (a) v l c _ hA hok hpa.2 (by decide) (by omega) hH.zoff hH.mine) ?_)
 rintro _ w60 ⟨a57, v58, rfl, ha59, hF61⟩
 replace hH := hH.turns hF61
 replace hH := hH.n4
 refine Dn ?_
 have hrl := rowF_lenH [] 4 (by decide) (Tv.nds t.subs) true l (fun x _ => exprF_len x) (by rw [Tv.nds_eq, List.all_map]; exact List.all_eq_true.2 hpa.2)
 refine Dr hH (slk (slk sln)) ?_
 clear hH; intro w62 hH hS9
 refine Dq 0 rfl (fun _ hS => (Lk 1 hS rfl rfl rfl)) hS9 <| Gp2 3 [1,2,3] 14 (Pp g 0) 15 (Pp b3 0) hS9 <| Dq 4 rfl (fun _ hS => (Lk 0 hS rfl rfl rfl)) hS9 <| Dc0 1 [5] 17 (.int .i64 (IntKind.i64.wrap (t.kind - 8))) (Ni j) (by rw [hj, show (8 : Int) + (j : Int) - 8 = j from by omega]; exact cv_i64 (by omega)) hS9 <| Dq 6 rfl (fun _ hS => (rd_sidx (by kernel_rfl) rfl j rfl (by show j < 3; omega))) hS9 <| gdk [(14, Pp g 0), (18, .int .u8 ((gb [63, 42, 43] j : Nat) : Int))] ?_
 replace hH : Hp w w62 _ _ ([_, _] ++ [_, _]) := hH.fr4.fr4
 refine gds 7 (Sc rfl rfl (WriteByte_ct g 320 (a57) v58 (rowF (Tv.nds t.subs) [] 4 true l) (gb [63, 42, 43] j) _ ha59 hH.mine lies_pg (by omega) (by rw [Tv.nds_size] at hrl; omega)) ?_)
 rintro _ w64 ⟨v63, rfl, hF65⟩
 replace hH := hH.turns hF65
 replace hH := hH.n4
 refine Nl (hH.sb (slk (slk sln))) fun hS9 => gdn [] <| bkN <| end0 rfl ?_
 replace hH := hH.fr4.fr4
 replace hH := (hH.sb (slk (slk sln))).n2
 exact ⟨Pp g 0, v63, rfl, (.inr rfl), by rw [exprF_eq, if_neg hw, if_neg hk1, if_neg hk2, if_neg hk3, if_neg hk4, if_neg hk5, if_neg hk7, if_neg hk6, if_neg (by omega), sufB hj hj3]; exact hH.turned⟩
theorem PExpr_ct (t : Tv) : PExC t := Tv.ind PExpr_step t

end Go.Proofs.YtllfpnbhjfadiaaGreatDoor
