/- The law CodeMore: one more rule behind the others: what its function answers. -/
import Derived.Test.YtllfpnbhjfadiaaGreatDoorOnce
import Derived.Test.YtllfpnbhjfadiaaGreatDoorGg
set_option maxRecDepth 100000
set_option maxHeartbeats 2000000
set_option linter.unusedVariables false
set_option linter.unusedSimpArgs false
namespace Go.Proofs.YtllfpnbhjfadiaaGreatDoor
open Go.RowKit Go.SW
def cmB : List UInt8 := [99, 111, 100, 101, 109, 111, 114, 101]
def moreR (rs : List Rv) (t : Tv) : List Rv := rs ++ [⟨cmB, t, 0⟩]
theorem rvC_one (rs : List Rv) : ∀ u ∈ rowC rvC rs, u.oneCell' = true := by
  intro u hu
  obtain ⟨r, _, hr⟩ := List.mem_flatMap.1 hu
  obtain ⟨nm, b, p⟩ := r
  cases b
  simp only [rvC, tvC, List.cons_append, List.nil_append, List.mem_cons, List.not_mem_nil, or_false] at hr
  rcases hr with rfl | rfl | rfl | rfl | rfl | rfl | rfl | rfl | rfl | rfl <;> rfl
theorem more_ok {c : Zone} {rs : List Rv} {t : Tv} (h : RvsOk c rs) (ht : TvOk c t) : RvsOk c (moreR rs t) := fun r hr => by
  rcases List.mem_append.1 hr with hr | hr
  · exact h r hr
  · rw [List.mem_singleton.1 hr]
    exact ⟨ht, by show (8 : Nat) ≤ _; decide, by show -9223372036854775808 ≤ (0 : Int) ∧ (0 : Int) ≤ _; decide⟩
theorem more_sizes (rs : List Rv) (t : Tv) : Rv.sizes (moreR rs t) = Rv.sizes rs + t.size + 1 := by
  unfold moreR
  induction rs with
  | nil => simp [Rv.sizes]
  | cons r rs ih => rw [List.cons_append, Rv.sizes, ih, Rv.sizes]; omega
theorem more_rl (rs : List Rv) (t : Tv) : (moreR rs t).map Rv.rl = rs.map Rv.rl ++ [⟨cmB, t.nd, 0⟩] := by
  unfold moreR; rw [List.map_append]; rfl
theorem row_frozen {w0 w : World} {z : Zone} {F : List Nat} {os : List Own} {v : Value} {e : TypeId} {m n : Nat} {xs : List Value} (h : Hp w0 w z F (.row v e m n xs :: os)) : ∃ c, z.le c ∧ Row c v m n xs ∧ Hp w0 w c F os := by
  have h1 : Hp w0 w z F ([.row v e m n xs] ++ os) := h
  have hp := h1.perm List.perm_append_comm
  exact ⟨off w (blksOf os), hp.zoff, off_row h1 0 rfl, h1.freeze (List.sublist_append_right _ _)⟩

theorem CodeMore_ct (rs : List Rv) (t : Tv) (cap : Nat) (A : Option Addr) (c : Zone) (w : World) (hg0 : c ⟨0, 0, none⟩ = some errTy) (hc : c.le w.cell?) (hT : Row c (.slice A rs.length cap) 10 rs.length (rowC rvC rs)) (hok : RvsOk c rs) (htk : TvOk c t) (hb : 2400 * (Rv.sizes rs + t.size + 1) ≤ 70368744177664) (hP : TabW w) (hZ : TbC c) :
    Fun Tryz.prog 4 [.agg #[.slice A rs.length cap], .agg (tvC t).toArray] w fun v w' => v = .bool true ∧ Fresh w w' [] := by
 have hrl0 : rs.length ≤ Rv.sizes rs := by have := Rv.sizes_rl rs; omega
 have hml0 := row_small hT
 refine fun_of_sw Tryz.func4 rfl 155 rfl rfl ?_
 have hH := (Hp.start w).zsub hc
 refine sw_sr <| gl_st (Bx [.slice A rs.length cap] rfl hH ?_)
 clear hH; intro b1 w2 hH
 refine gl_st (Bx [.int .i64 t.kind, .string (bs t.text), .int .u64 ((t.cl.a : Nat) : Int), .int .u64 ((t.cl.b : Nat) : Int), .int .u64 ((t.cl.c : Nat) : Int), .int .u64 ((t.cl.d : Nat) : Int), .slice t.A t.subs.length t.cap, .int .i64 t.pos] rfl hH ?_)
 clear hH; intro b3 w4 hH
 refine Go0 1 <| Dn <| sw_sr <| gl_st (Sc rfl rfl (Small_ct _ _ (hH.zin _ _ hg0) (Zone.le.refl _) (tab_now hP hZ (by rw [off_nil]; exact hc) hH) (hZ.mono hH.zin)) ?_)
 rintro _ w5 ⟨rfl, hF6⟩
 replace hH := hH.call hF6
 refine Go1 1 5 (.bool true) <| Dn <| sw_sr <| Gq rfl (La 0 [.slice A rs.length cap] hH rfl rfl) <| gl_st (Sc rfl rfl (Make_ct rs cap A c _ (hg0) hH.zin hT hok (by omega) (tab_now hP hZ (by rw [off_nil]; exact hc) hH) hZ) ?_)
 rintro _ w18 ⟨l7, A8, A9, A10, c11, c12, c13, pl14, fb15, rfl, ho16, ho17, hF19⟩
 replace hH := hH.call hF19
 refine Go2 3 17 (.agg #[.slice A8 l7.length c11, .slice A9 ((makeF (rs.map Rv.rl)).2.names.length) c12, .slice A10 ((makeF (rs.map Rv.rl)).2.roots.length) c13]) 18 (erV (makeF (rs.map Rv.rl)).1 fb15) <| gl_st (Alc [.slice none 0 0, .slice none 0 0, .slice none 0 0] rfl hH ?_)
 clear hH; intro b20 w21 hH
 refine gl_st (Ka 7 [.slice A8 l7.length c11, .slice A9 ((makeF (rs.map Rv.rl)).2.names.length) c12, .slice A10 ((makeF (rs.map Rv.rl)).2.roots.length) c13] [.slice A8 l7.length c11, .slice A9 ((makeF (rs.map Rv.rl)).2.names.length) c12, .slice A10 ((makeF (rs.map Rv.rl)).2.roots.length) c13] rfl hH rfl rfl ?_)
 clear hH; intro w22 hH
 refine Go1 1 7 (erV (makeF (rs.map Rv.rl)).1 fb15) <| Dn <| sw_sr <| gl_st (Alc [.slice none 0 0] rfl hH ?_)
 clear hH; intro b23 w24 hH
 replace hH := hH.n9
 refine Dn <| sw_seq <| Dr hH (slk (slk (slk (slk (slk (slk (slk (slk sln)))))))) ?_
 clear hH; intro w25 hH hS9
 refine Gp2 2 [0,2] 19 (Pp b23 0) 21 (Pp b1 0) hS9 <| Dq 3 rfl (fun _ hS => (Lk 0 hS rfl rfl rfl)) hS9 <| Dq 5 rfl (fun _ hS => (La 1 [.int .i64 t.kind, .string (bs t.text), .int .u64 ((t.cl.a : Nat) : Int), .int .u64 ((t.cl.b : Nat) : Int), .int .u64 ((t.cl.c : Nat) : Int), .int .u64 ((t.cl.d : Nat) : Int), .slice t.A t.subs.length t.cap, .int .i64 t.pos] hS rfl rfl)) hS9 <| Gp1 1 [6] 25 (.agg #[.string (bs [99, 111, 100, 101, 109, 111, 114, 101]), .int .i64 t.kind, .string (bs t.text), .int .u64 ((t.cl.a : Nat) : Int), .int .u64 ((t.cl.b : Nat) : Int), .int .u64 ((t.cl.c : Nat) : Int), .int .u64 ((t.cl.d : Nat) : Int), .slice t.A t.subs.length t.cap, .int .i64 t.pos, .int .i64 0]) hS9 <| gd_st2 1 7 (by kernel_rfl) ?_ ?_
 refine st_q rfl rfl rfl (Lk 8 hH rfl rfl rfl) <| Nl hS9 fun hS9 => gdk [(5, .bool true), (6, Pp b20 0), (7, erV (makeF (rs.map Rv.rl)).1 fb15), (8, Pp b23 0), (20, .slice none 0 0), (22, .slice A rs.length cap), (25, .agg #[.string (bs [99, 111, 100, 101, 109, 111, 114, 101]), .int .i64 t.kind, .string (bs t.text), .int .u64 ((t.cl.a : Nat) : Int), .int .u64 ((t.cl.b : Nat) : Int), .int .u64 ((t.cl.c : Nat) : Int), .int .u64 ((t.cl.d : Nat) : Int), .slice t.A t.subs.length t.cap, .int .i64 t.pos, .int .i64 0])] <| gd_st2 4 7 (by kernel_rfl) ?_ ?_
 replace hH := hH.nilRow 43 10
 refine Apd (e := 43) (.agg #[.string (bs []), .int .i64 0, .string (bs []), .int .u64 0, .int .u64 0, .int .u64 0, .int .u64 0, .slice none 0 0, .int .i64 0, .int .i64 0]) 10 112 9 rfl hH rfl rfl rfl (hT.mono hH.zin) (rvC_one rs) (by unfold maxLen; omega) (by omega) ?_
 clear hH; intro v26 w27 hH
 obtain ⟨A28, c29, rfl, hl30, hm31⟩ := hH.row_form 9 rfl
 replace hH := hH.n10
 refine Nl (hH.sb (slk (slk (slk (slk (slk (slk (slk (slk sln))))))))) fun hS9 => gdk [(5, .bool true), (6, Pp b20 0), (7, erV (makeF (rs.map Rv.rl)).1 fb15), (8, Pp b23 0), (23, .slice A28 (0 + rs.length) c29), (25, .agg #[.string (bs [99, 111, 100, 101, 109, 111, 114, 101]), .int .i64 t.kind, .string (bs t.text), .int .u64 ((t.cl.a : Nat) : Int), .int .u64 ((t.cl.b : Nat) : Int), .int .u64 ((t.cl.c : Nat) : Int), .int .u64 ((t.cl.d : Nat) : Int), .slice t.A t.subs.length t.cap, .int .i64 t.pos, .int .i64 0])] <| gds 7 (st_buildS (e := 43) (zv := .agg #[.string (bs []), .int .i64 0, .string (bs []), .int .u64 0, .int .u64 0, .int .u64 0, .int .u64 0, .slice none 0 0, .int .i64 0, .int .i64 0]) (m := 10) (bytes := 112) rfl rfl rfl (by kernel_rfl) (by kernel_rfl) rfl (cs := [.string (bs [99, 111, 100, 101, 109, 111, 114, 101]), .int .i64 t.kind, .string (bs t.text), .int .u64 ((t.cl.a : Nat) : Int), .int .u64 ((t.cl.b : Nat) : Int), .int .u64 ((t.cl.c : Nat) : Int), .int .u64 ((t.cl.d : Nat) : Int), .slice t.A t.subs.length t.cap, .int .i64 t.pos, .int .i64 0]) (by kernel_rfl) rfl hH ?_)
 clear hH; intro b32 w33 hH
 replace hH := hH.n11
 refine Nl (hH.sb (slk (slk (slk (slk (slk (slk (slk (slk sln))))))))) fun hS9 => gds 8 (Apd (e := 43) (.agg #[.string (bs []), .int .i64 0, .string (bs []), .int .u64 0, .int .u64 0, .int .u64 0, .int .u64 0, .slice none 0 0, .int .i64 0, .int .i64 0]) 10 112 9 rfl hH rfl rfl rfl (hH.row_reads 10 rfl) (by simp [Value.oneCell']) (by unfold maxLen; omega) (by omega) ?_)
 clear hH; intro v34 w35 hH
 replace hH := hH.row_eq 9 (l' := (moreR rs t).length) (xs' := rowC rvC (moreR rs t)) rfl (by unfold moreR; simp) (by unfold moreR; rw [← rowC_app, rowC_one]; first | rfl | (cases t; rfl))
 obtain ⟨A36, c37, rfl, hl38, hm39⟩ := hH.row_form 9 rfl
 replace hH := hH.n11
 refine Nl (hH.sb (slk (slk (slk (slk (slk (slk (slk (slk sln))))))))) fun hS9 => Gp1 1 [9] 28 (Pp b23 0) hS9 <| gds 10 (Ks 8 (.slice A36 ((moreR rs t).length) c37) rfl hH rfl rfl ?_)
 clear hH; intro w40 hH
 replace hH := hH.n11
 refine Nl (hH.sb (slk (slk (slk (slk (slk (slk (slk (slk sln))))))))) fun hS9 => ?_
 replace hH := hH.fr10
 obtain ⟨c2, hc9, hT2, hH9⟩ := row_frozen hH
 clear hH
 have hH := hH9
 clear hH9
 have hok2 : RvsOk c2 (moreR rs t) := more_ok (hok.mono hc9) (htk.mono hc9)
 have hsz2 := more_sizes rs t
 refine gdn [(5, .bool true), (6, Pp b20 0), (7, erV (makeF (rs.map Rv.rl)).1 fb15), (8, Pp b23 0)] <| sw_next <| sw_sr <| Gq rfl (La 8 [.slice A36 ((moreR rs t).length) c37] hH rfl rfl) <| gl_st (Sc rfl rfl (Make_ct (moreR rs t) c37 A36 c2 _ ((hc9 _ _ hg0)) hH.zin hT2 hok2 (by rw [hsz2]; omega) (tab_now hP hZ (by rw [off_nil]; exact hc) hH) (hZ.mono hc9)) ?_)
 rintro _ w52 ⟨l41, A42, A43, A44, c45, c46, c47, pl48, fb49, rfl, ho50, ho51, hF53⟩
 replace hH := hH.call hF53
 replace hH : Hp w w52 _ _ [_, _, _, _, _, _, _, _, _, _, _, _, _, _, _] := hH
 refine Go2 3 32 (.agg #[.slice A42 l41.length c45, .slice A43 ((makeF ((moreR rs t).map Rv.rl)).2.names.length) c46, .slice A44 ((makeF ((moreR rs t).map Rv.rl)).2.roots.length) c47]) 33 (erV (makeF ((moreR rs t).map Rv.rl)).1 fb49) <| gl_st (Alc [.slice none 0 0, .slice none 0 0, .slice none 0 0] rfl hH ?_)
 clear hH; intro b54 w55 hH
 replace hH : Hp w w55 _ _ [_, _, _, _, _, _, _, _, _, _, _, _, _, _, _, _] := hH
 refine gl_st (Ka 15 [.slice A42 l41.length c45, .slice A43 ((makeF ((moreR rs t).map Rv.rl)).2.names.length) c46, .slice A44 ((makeF ((moreR rs t).map Rv.rl)).2.roots.length) c47] [.slice A42 l41.length c45, .slice A43 ((makeF ((moreR rs t).map Rv.rl)).2.names.length) c46, .slice A44 ((makeF ((moreR rs t).map Rv.rl)).2.roots.length) c47] rfl hH rfl rfl ?_)
 clear hH; intro w56 hH
 replace hH : Hp w w56 _ _ [_, _, _, _, _, _, _, _, _, _, _, _, _, _, _, _] := hH
 refine Go1 1 10 (erV (makeF ((moreR rs t).map Rv.rl)).1 fb49) <| Dn <| sw_seq <| sw_sr <| Go2 4 36 (.bool false) 37 (erV (makeF (rs.map Rv.rl)).1 fb15) <| Gq rfl (rd_er_ne (by kernel_rfl) rfl) <| Go1 2 40 (.bool (!((makeF (rs.map Rv.rl)).1).isNil)) <| Gi 40 rfl (fun hg1 => ?_) (fun hg1 => ?_)
 refine Go1 3 43 (.bool true) <| Dn <| It <| sw_sr <| Go1 2 4 (.bool true) <| Dn <| Rt1 rfl rfl ?_
 exact ⟨rfl, (hH.sb sln).fresh⟩
 have hk1 : (makeF (rs.map Rv.rl)).1.isNil = true := hg1
 refine Go1 1 41 (erV (makeF ((moreR rs t).map Rv.rl)).1 fb49) <| Gq rfl (rd_er_ne (by kernel_rfl) rfl) <| Go1 1 43 (.bool (!((makeF ((moreR rs t).map Rv.rl)).1).isNil)) <| Dn <| If rfl (fun hc3 => ?_) (fun hc3 => ?_)
 refine sw_sr <| Go1 2 4 (.bool true) <| Dn <| Rt1 rfl rfl ?_
 exact ⟨rfl, (hH.sb sln).fresh⟩
 have hk2 : (makeF ((moreR rs t).map Rv.rl)).1.isNil = true := hc3
 replace hH := hH.fr7.fr7.fr7.fr7.fr7
 obtain ⟨c3, hcc3, hp1, hH9⟩ := mk_frozen ho17 hH
 clear hH
 have hH := hH9
 clear hH9
 have hO1 : Row c3 (.slice A8 l7.length c11) 7 l7.length (rowC opC l7) := hp1.ops
 have hN1 : Row c3 (.slice A9 (makeF (rs.map Rv.rl)).2.names.length c12) 1 (makeF (rs.map Rv.rl)).2.names.length (rowC sC (makeF (rs.map Rv.rl)).2.names) := hp1.names
 have hR1 : Row c3 (.slice A10 (makeF (rs.map Rv.rl)).2.roots.length c13) 1 (makeF (rs.map Rv.rl)).2.roots.length (rowC iC (makeF (rs.map Rv.rl)).2.roots) := hp1.roots
 have hE1 : OvsOk c3 l7 := hp1.each
 replace hH := hH.fr10.fr10.fr10.fr10.fr10
 obtain ⟨c4, hcc4, hp2, hH9⟩ := mk_frozen ho51 hH
 clear hH
 have hH := hH9
 clear hH9
 have hO2 : Row c4 (.slice A42 l41.length c45) 7 l41.length (rowC opC l41) := hp2.ops
 have hN2 : Row c4 (.slice A43 (makeF ((moreR rs t).map Rv.rl)).2.names.length c46) 1 (makeF ((moreR rs t).map Rv.rl)).2.names.length (rowC sC (makeF ((moreR rs t).map Rv.rl)).2.names) := hp2.names
 have hR2 : Row c4 (.slice A44 (makeF ((moreR rs t).map Rv.rl)).2.roots.length c47) 1 (makeF ((moreR rs t).map Rv.rl)).2.roots.length (rowC iC (makeF ((moreR rs t).map Rv.rl)).2.roots) := hp2.roots
 have hE2 : OvsOk c4 l41 := hp2.each
 replace hO1 := hO1.mono hcc4
 replace hN1 := hN1.mono hcc4
 replace hR1 := hR1.mono hcc4
 replace hE1 := hE1.mono hcc4
 clear hp1 hp2
 obtain ⟨hsd1, hpg1, _⟩ := mk_is hk1
 obtain ⟨hsd2, hpg2, _⟩ := mk_is hk2
 obtain ⟨hpre, kx, hroot⟩ := mk0_more (rs := rs.map Rv.rl) ⟨cmB, t.nd, 0⟩ hsd1
 rw [← more_rl] at hpre hroot
 have hop : l7.map Ov.o <+: l41.map Ov.o := by rw [ho16, ho50, hpg1, hpg2]; exact hpre
 have hol := hop.length_le
 rw [List.length_map, List.length_map] at hol
 have hnn : (makeF (rs.map Rv.rl)).2.names <+: (makeF ((moreR rs t).map Rv.rl)).2.names := by rw [hpg1, hpg2]; show _ <+: ((moreR rs t).map Rv.rl).map (·.name); rw [more_rl, List.map_append]; exact List.prefix_append _ _
 have hrr : (makeF (rs.map Rv.rl)).2.roots <+: (makeF ((moreR rs t).map Rv.rl)).2.roots := by rw [hpg1, hpg2]; show _ <+: ((mk0 ((moreR rs t).map Rv.rl)).1.map Int.ofNat); rw [hroot, List.map_append]; exact List.prefix_append _ _
 have hnl1 : (makeF (rs.map Rv.rl)).2.names.length = rs.length := by rw [hpg1]; simp
 have hrl1 : (makeF (rs.map Rv.rl)).2.roots.length = rs.length := by rw [hpg1]; show ((mk0 (rs.map Rv.rl)).1.map Int.ofNat).length = _; rw [List.length_map, mk0_roots, List.length_map]
 have hql : (moreR rs t).length = rs.length + 1 := by unfold moreR; simp
 have hnl2 : (makeF ((moreR rs t).map Rv.rl)).2.names.length = rs.length + 1 := by rw [hpg2]; simp [hql]
 have hrl2 : (makeF ((moreR rs t).map Rv.rl)).2.roots.length = rs.length + 1 := by rw [hpg2]; show ((mk0 ((moreR rs t).map Rv.rl)).1.map Int.ofNat).length = _; rw [List.length_map, mk0_roots, List.length_map, hql]
 have hs7 := row_small hO1
 have hs8 := row_small hO2
 have hs9 := row_small hT
 replace hH := hH.fr6.fr4
 replace hH := (hH.sb (slk (slk sln))).n2
 refine Sk <| sw_seq <| sw_sr <| Go1 1 45 (Pp b54 0) <| Gq rfl (Lk 1 hH rfl rfl rfl) <| Gq rfl (Ln (e := 45) rfl) <| Go1 1 48 (Pp b20 0) <| Gq rfl (Lk 0 hH rfl rfl rfl) <| Gq rfl (Ln (e := 45) rfl) <| Go1 2 52 (.bool (decide (((l41.length : Nat) : Int) < ((l7.length : Nat) : Int)))) <| Gi 52 rfl (fun hg4 => ?_) (fun hg4 => ?_)
 exfalso; have := hg4; omega
 refine Go1 1 53 (Pp b54 1) <| Gq rfl (Lk 1 hH rfl rfl rfl) <| Gq rfl (Ln (e := 9) rfl) <| Go1 1 56 (Pp b20 1) <| Gq rfl (Lk 0 hH rfl rfl rfl) <| Gq rfl (Ln (e := 9) rfl) <| glo 1 [(6, Pp b20 0), (9, Pp b54 0), (52, .bool false), (55, Ni ((makeF ((moreR rs t).map Rv.rl)).2.names.length)), (59, .int .i64 (IntKind.i64.wrap ((((makeF (rs.map Rv.rl)).2.names.length : Nat) : Int) + 1)))] <| gl_cv 59 (Ni (((makeF (rs.map Rv.rl)).2.names.length) + 1)) (cv_i64 (by omega)) rfl <| Go1 3 62 (.bool ((((makeF ((moreR rs t).map Rv.rl)).2.names.length : Nat) : Int) != ((((makeF (rs.map Rv.rl)).2.names.length) + 1 : Nat) : Int))) <| Gi 62 rfl (fun hg5 => ?_) (fun hg5 => ?_)
 exfalso; have := hg5; omega
 refine Go1 1 63 (Pp b54 2) <| Gq rfl (Lk 1 hH rfl rfl rfl) <| Gq rfl (Ln (e := 3) rfl) <| Go1 1 66 (Pp b20 2) <| Gq rfl (Lk 0 hH rfl rfl rfl) <| Gq rfl (Ln (e := 3) rfl) <| Gw0 1 69 ((((makeF (rs.map Rv.rl)).2.roots.length : Nat) : Int) + 1) ((((makeF (rs.map Rv.rl)).2.roots.length) + 1 : Nat) : Int) <| Go1 2 71 (.bool ((((makeF ((moreR rs t).map Rv.rl)).2.roots.length : Nat) : Int) != ((((makeF (rs.map Rv.rl)).2.roots.length) + 1 : Nat) : Int))) <| Dn <| If rfl (fun hc6 => ?_) (fun hc6 => ?_)
 exfalso; have := hc6; omega
 refine Sk <| sw_seq <| sw_sr <| Go1 1 11 (.int .i64 0) <| Dn <| sw_block <| Lp (γ := Nat) hH (fun i => [(6, Pp b20 0), (9, Pp b54 0), (11, Ni i)]) (fun i w_ H_ => (i ≤ rs.length) ∧ H_ [.blk b20 30 [.slice A8 l7.length c11, .slice A9 ((makeF (rs.map Rv.rl)).2.names.length) c12, .slice A10 ((makeF (rs.map Rv.rl)).2.roots.length) c13], .blk b54 30 [.slice A42 l41.length c45, .slice A43 ((makeF ((moreR rs t).map Rv.rl)).2.names.length) c46, .slice A44 ((makeF ((moreR rs t).map Rv.rl)).2.roots.length) c47]]) (fun i => rs.length - i) (0) ?_ ?_
 · exact ⟨Nat.zero_le _, hH⟩
 clear hH
 rintro i w57 ⟨hi, hH⟩
 refine swk [(6, Pp b20 0), (9, Pp b54 0), (11, Ni i)] <| sw_seq <| sw_sr <| Go2 2 72 (Ni i) 73 (Pp b20 2) <| Gq rfl (Lk 0 hH rfl rfl rfl) <| Gq rfl (Ln (e := 3) rfl) <| Go1 1 76 (.bool (decide ((i : Int) < (((makeF (rs.map Rv.rl)).2.roots.length : Nat) : Int)))) <| Dn <| If rfl (fun hc7 => ?_) (fun hc7 => ?_)
 refine Sk <| sw_seq <| sw_block <| sw_seq ?_
 obtain ⟨ra, hra⟩ : ∃ z9, (makeF (rs.map Rv.rl)).2.roots[i]? = some z9 := ⟨_, List.getElem?_eq_getElem (by omega)⟩
 obtain ⟨rb, hrb⟩ : ∃ z9, (makeF ((moreR rs t).map Rv.rl)).2.roots[i]? = some z9 := ⟨_, List.getElem?_eq_getElem (by omega)⟩
 obtain ⟨na, hna⟩ : ∃ z9, (makeF (rs.map Rv.rl)).2.names[i]? = some z9 := ⟨_, List.getElem?_eq_getElem (by omega)⟩
 obtain ⟨nb, hnb⟩ : ∃ z9, (makeF ((moreR rs t).map Rv.rl)).2.names[i]? = some z9 := ⟨_, List.getElem?_eq_getElem (by omega)⟩
 have hrq : rb = ra := pre_at hrr hra hrb
 have hnq : nb = na := pre_at hnn hna hnb
 refine Dr hH (slk (slk sln)) ?_
 clear hH; intro w58 hH hS9
 refine Gp1 1 [0] 79 (Pp b54 2) hS9 <| Dq 1 rfl (fun _ hS => (Lk 1 hS rfl rfl rfl)) hS9 ?_
 obtain ⟨p59, hi61, hp60⟩ := hR2.idx i (by omega) (by decide)
 refine Gp1 1 [2] 81 (Ni i) hS9 <| Dq 3 rfl (fun _ hS => (Ix (e := 3) 1 rfl rfl hi61)) hS9 <| Dq 4 rfl (fun _ hS => (rd_load (by kernel_rfl) rfl (hS.zin _ _ (hp60 0 _ (by decide) (rowC_at iC_len hrb 0 (by decide) rfl))))) hS9 <| Gp1 1 [5] 84 (Pp b20 2) hS9 <| Dq 6 rfl (fun _ hS => (Lk 0 hS rfl rfl rfl)) hS9 ?_
 obtain ⟨p62, hi64, hp63⟩ := hR1.idx i (by omega) (by decide)
 refine Gp1 1 [7] 86 (Ni i) hS9 <| Dq 8 rfl (fun _ hS => (Ix (e := 3) 1 rfl rfl hi64)) hS9 <| Dq 9 rfl (fun _ hS => (rd_load (by kernel_rfl) rfl (hS.zin _ _ (hp63 0 _ (by decide) (rowC_at iC_len hra 0 (by decide) rfl))))) hS9 <| Gp1 2 [10,11] 90 (.bool ((rb : Int) != (ra : Int))) hS9 <| Di 90 rfl (fun hg8 => ?_) (fun hg8 => ?_)
 exfalso; have := hg8; omega
 refine Gp1 1 [12] 91 (Pp b54 1) hS9 <| Dq 13 rfl (fun _ hS => (Lk 1 hS rfl rfl rfl)) hS9 ?_
 obtain ⟨p65, hi67, hp66⟩ := hN2.idx i (by omega) (by decide)
 refine Gp1 1 [14] 93 (Ni i) hS9 <| Dq 15 rfl (fun _ hS => (Ix (e := 9) 1 rfl rfl hi67)) hS9 <| Dq 16 rfl (fun _ hS => (rd_load (by kernel_rfl) rfl (hS.zin _ _ (hp66 0 _ (by decide) (rowC_at sC_len hnb 0 (by decide) rfl))))) hS9 <| Gp1 1 [17] 96 (Pp b20 1) hS9 <| Dq 18 rfl (fun _ hS => (Lk 0 hS rfl rfl rfl)) hS9 <| gdk [(6, Pp b20 0), (9, Pp b54 0), (11, Ni i), (90, .bool false), (95, .string (bs nb)), (97, .slice A9 ((makeF (rs.map Rv.rl)).2.names.length) c12)] ?_
 obtain ⟨p68, hi70, hp69⟩ := hN1.idx i (by omega) (by decide)
 refine Gp1 1 [19] 98 (Ni i) hS9 <| Dq 20 rfl (fun _ hS => (Ix (e := 9) 1 rfl rfl hi70)) hS9 <| Dq 21 rfl (fun _ hS => (rd_load (by kernel_rfl) rfl (hS.zin _ _ (hp69 0 _ (by decide) (rowC_at sC_len hna 0 (by decide) rfl))))) hS9 <| Dq 22 rfl (fun _ hS => (rd_sneq (by kernel_rfl) rfl rfl)) hS9 <| Gp1 1 [23] 102 (.bool (!(nb == na))) hS9 <| gdn [(6, Pp b20 0), (9, Pp b54 0), (11, Ni i), (102, .bool (!(nb == na)))] <| sw_next <| If rfl (fun hc9 => ?_) (fun hc9 => ?_)
 exfalso; exact absurd hnq (by simpa using hc9)
 refine sw_skip <| bkN <| sw_next <| sw_region <| Gw0 2 78 ((i : Int) + 1) ((i + 1 : Nat) : Int) <| Go1 1 11 (Ni (i + 1)) <| Dd <| rnd_end (g := (i)) (i + 1) (by kernel_rfl) ?_ ?_
 replace hH := (hH.sb (slk (slk sln))).n2
 · exact ⟨by omega, hH⟩
 · show rs.length - (i + 1) < rs.length - i; omega
 refine sw_exit <| thX <| thX <| bkH <| sw_next <| sw_seq <| sw_sr <| Go1 1 12 (.int .i64 0) <| Dn <| sw_block <| Lp (γ := Nat) hH (fun j => [(6, Pp b20 0), (9, Pp b54 0), (12, Ni j)]) (fun j w_ H_ => (j ≤ l7.length) ∧ H_ [.blk b20 30 [.slice A8 l7.length c11, .slice A9 ((makeF (rs.map Rv.rl)).2.names.length) c12, .slice A10 ((makeF (rs.map Rv.rl)).2.roots.length) c13], .blk b54 30 [.slice A42 l41.length c45, .slice A43 ((makeF ((moreR rs t).map Rv.rl)).2.names.length) c46, .slice A44 ((makeF ((moreR rs t).map Rv.rl)).2.roots.length) c47]]) (fun j => l7.length - j) (0) ?_ ?_
 · exact ⟨Nat.zero_le _, hH⟩
 clear hH
 rintro j w71 ⟨hj, hH⟩
 refine swk [(6, Pp b20 0), (9, Pp b54 0), (12, Ni j)] <| sw_seq <| sw_sr <| Go2 2 103 (Ni j) 104 (Pp b20 0) <| Gq rfl (Lk 0 hH rfl rfl rfl) <| Gq rfl (Ln (e := 45) rfl) <| Go1 1 107 (.bool (decide ((j : Int) < ((l7.length : Nat) : Int)))) <| Dn <| If rfl (fun hc10 => ?_) (fun hc10 => ?_)
 refine Sk <| sw_seq <| sw_block <| sw_seq ?_
 obtain ⟨xa, hxa⟩ : ∃ z9, l7[j]? = some z9 := ⟨_, List.getElem?_eq_getElem (by omega)⟩
 obtain ⟨xb, hxb⟩ : ∃ z9, l41[j]? = some z9 := ⟨_, List.getElem?_eq_getElem (by omega)⟩
 have hxq : xb.o = xa.o := pre_at hop (map_at hxa) (map_at hxb)
 have hok_xa := hE1 xa (List.mem_of_getElem? hxa)
 have hok_xb := hE2 xb (List.mem_of_getElem? hxb)
 have hs5 := row_small hok_xa.row
 have hs6 := row_small hok_xb.row
 have hxk : xb.o.k = xa.o.k := by rw [hxq]
 have hxt : xb.o.t = xa.o.t := by rw [hxq]
 have hxs : xb.o.s.length = xa.o.s.length := by rw [hxq]
 refine Dr hH (slk (slk sln)) ?_
 clear hH; intro w72 hH hS9
 refine Gp1 1 [0] 110 (Pp b54 0) hS9 <| Dq 1 rfl (fun _ hS => (Lk 1 hS rfl rfl rfl)) hS9 ?_
 obtain ⟨p73, hi75, hp74⟩ := hO2.idx j (by omega) (by decide)
 refine Gp1 1 [2] 112 (Ni j) hS9 <| Dq 3 rfl (fun _ hS => (Ix (e := 45) 7 rfl rfl hi75)) hS9 <| Gp1 1 [4] 114 (.pointer (some p73)) hS9 <| Dq 5 rfl (fun _ hS => (rd_load (by kernel_rfl) rfl (hS.zin _ _ (hp74 0 _ (by decide) (rowC_at opC_len hxb 0 (by decide) rfl))))) hS9 <| Gp1 1 [6] 116 (Pp b20 0) hS9 <| Dq 7 rfl (fun _ hS => (Lk 0 hS rfl rfl rfl)) hS9 ?_
 obtain ⟨p76, hi78, hp77⟩ := hO1.idx j (by omega) (by decide)
 refine Gp1 1 [8] 118 (Ni j) hS9 <| Dq 9 rfl (fun _ hS => (Ix (e := 45) 7 rfl rfl hi78)) hS9 <| Gp1 1 [10] 120 (.pointer (some p76)) hS9 <| Dq 11 rfl (fun _ hS => (rd_load (by kernel_rfl) rfl (hS.zin _ _ (hp77 0 _ (by decide) (rowC_at opC_len hxa 0 (by decide) rfl))))) hS9 <| Gp1 2 [12,13] 123 (.bool ((xb.o.k : Int) != (xa.o.k : Int))) hS9 <| Di 123 rfl (fun hg11 => ?_) (fun hg11 => ?_)
 exfalso; have := hg11; omega
 refine Gp1 1 [14] 124 (Pp b54 0) hS9 <| Dq 15 rfl (fun _ hS => (Lk 1 hS rfl rfl rfl)) hS9 ?_
 obtain ⟨p79, hi81, hp80⟩ := hO2.idx j (by omega) (by decide)
 refine Gp1 1 [16] 126 (Ni j) hS9 <| Dq 17 rfl (fun _ hS => (Ix (e := 45) 7 rfl rfl hi81)) hS9 <| gdk [(6, Pp b20 0), (9, Pp b54 0), (12, Ni j), (123, .bool false), (127, .pointer (some p79))] <| Gp1 1 [18] 128 (.pointer (some (p79.add 1))) hS9 <| Dq 19 rfl (fun _ hS => (rd_load (by kernel_rfl) rfl (hS.zin _ _ (hp80 1 _ (by decide) (rowC_at opC_len hxb 1 (by decide) rfl))))) hS9 <| Gp1 1 [20] 130 (Pp b20 0) hS9 <| Dq 21 rfl (fun _ hS => (Lk 0 hS rfl rfl rfl)) hS9 ?_
 obtain ⟨p82, hi84, hp83⟩ := hO1.idx j (by omega) (by decide)
 refine Gp1 1 [22] 132 (Ni j) hS9 <| Dq 23 rfl (fun _ hS => (Ix (e := 45) 7 rfl rfl hi84)) hS9 <| Gp1 1 [24] 134 (.pointer (some (p82.add 1))) hS9 <| Dq 25 rfl (fun _ hS => (rd_load (by kernel_rfl) rfl (hS.zin _ _ (hp83 1 _ (by decide) (rowC_at opC_len hxa 1 (by decide) rfl))))) hS9 <| Dq 26 rfl (fun _ hS => (rd_sneq (by kernel_rfl) rfl rfl)) hS9 <| Gp1 2 [27,28] 138 (.bool (!(xb.o.t == xa.o.t))) hS9 <| Di 138 rfl (fun hg12 => ?_) (fun hg12 => ?_)
 exact absurd hxt hg12
 refine Gp1 1 [29] 139 (Pp b54 0) hS9 <| Dq 30 rfl (fun _ hS => (Lk 1 hS rfl rfl rfl)) hS9 ?_
 obtain ⟨p85, hi87, hp86⟩ := hO2.idx j (by omega) (by decide)
 refine Gp1 1 [31] 141 (Ni j) hS9 <| Dq 32 rfl (fun _ hS => (Ix (e := 45) 7 rfl rfl hi87)) hS9 <| Gp1 1 [33] 143 (.pointer (some (p85.add 6))) hS9 <| Dq 34 rfl (fun _ hS => (rd_load (by kernel_rfl) rfl (hS.zin _ _ (hp86 6 _ (by decide) (rowC_at opC_len hxb 6 (by decide) rfl))))) hS9 <| Dq 35 rfl (fun _ hS => (Ln (e := 3) rfl)) hS9 <| Gp1 1 [36] 146 (Pp b20 0) hS9 <| Dq 37 rfl (fun _ hS => (Lk 0 hS rfl rfl rfl)) hS9 ?_
 obtain ⟨p88, hi90, hp89⟩ := hO1.idx j (by omega) (by decide)
 refine Gp1 1 [38] 148 (Ni j) hS9 <| Dq 39 rfl (fun _ hS => (Ix (e := 45) 7 rfl rfl hi90)) hS9 <| gdk [(6, Pp b20 0), (9, Pp b54 0), (12, Ni j), (138, .bool false), (145, Ni xb.o.s.length), (149, .pointer (some p88))] <| Gp1 1 [40] 150 (.pointer (some (p88.add 6))) hS9 <| Dq 41 rfl (fun _ hS => (rd_load (by kernel_rfl) rfl (hS.zin _ _ (hp89 6 _ (by decide) (rowC_at opC_len hxa 6 (by decide) rfl))))) hS9 <| Dq 42 rfl (fun _ hS => (Ln (e := 3) rfl)) hS9 <| Gp1 2 [43,44] 154 (.bool (((xb.o.s.length : Nat) : Int) != ((xa.o.s.length : Nat) : Int))) hS9 <| gdn [(6, Pp b20 0), (9, Pp b54 0), (12, Ni j), (154, .bool (((xb.o.s.length : Nat) : Int) != ((xa.o.s.length : Nat) : Int)))] <| sw_next <| If rfl (fun hc13 => ?_) (fun hc13 => ?_)
 exfalso; have := hc13; omega
 refine sw_skip <| bkN <| sw_next <| sw_region <| Gw0 2 109 ((j : Int) + 1) ((j + 1 : Nat) : Int) <| Go1 1 12 (Ni (j + 1)) <| Dd <| rnd_end (g := (j)) (j + 1) (by kernel_rfl) ?_ ?_
 replace hH := (hH.sb (slk (slk sln))).n2
 · exact ⟨by omega, hH⟩
 · show l7.length - (j + 1) < l7.length - j; omega
 refine sw_exit <| thX <| thX <| bkH <| sw_next <| sw_sr <| Go1 1 4 (.bool true) <| Dn <| Rt1 rfl rfl ?_
 exact ⟨rfl, (hH.sb sln).fresh⟩
 refine st_buildS (e := 43) (zv := .agg #[.string (bs []), .int .i64 0, .string (bs []), .int .u64 0, .int .u64 0, .int .u64 0, .int .u64 0, .slice none 0 0, .int .i64 0, .int .i64 0]) (m := 10) (bytes := 112) rfl rfl rfl (by kernel_rfl) (by kernel_rfl) rfl (cs := [.string (bs [99, 111, 100, 101, 109, 111, 114, 101]), .int .i64 t.kind, .string (bs t.text), .int .u64 ((t.cl.a : Nat) : Int), .int .u64 ((t.cl.b : Nat) : Int), .int .u64 ((t.cl.c : Nat) : Int), .int .u64 ((t.cl.d : Nat) : Int), .slice t.A t.subs.length t.cap, .int .i64 t.pos, .int .i64 0]) (by kernel_rfl) rfl hH ?_
 clear hH; intro b91 w92 hH
 replace hH := hH.n10
 refine Nl (hH.sb (slk (slk (slk (slk (slk (slk (slk (slk sln))))))))) fun hS9 => gdk [(5, .bool true), (6, Pp b20 0), (7, erV (makeF (rs.map Rv.rl)).1 fb15), (8, Pp b23 0), (20, .slice none 0 0), (22, .slice A rs.length cap), (26, .slice (some ⟨b91, 0, none⟩) 1 1)] ?_
 replace hH := hH.nilRow 43 10
 refine gds 4 (Apd (e := 43) (.agg #[.string (bs []), .int .i64 0, .string (bs []), .int .u64 0, .int .u64 0, .int .u64 0, .int .u64 0, .slice none 0 0, .int .i64 0, .int .i64 0]) 10 112 10 rfl hH rfl rfl rfl (hT.mono hH.zin) (rvC_one rs) (by unfold maxLen; omega) (by omega) ?_)
 clear hH; intro v93 w94 hH
 obtain ⟨A95, c96, rfl, hl97, hm98⟩ := hH.row_form 10 rfl
 replace hH := hH.n11
 refine Nl (hH.sb (slk (slk (slk (slk (slk (slk (slk (slk sln))))))))) fun hS9 => gds 8 (Apd (e := 43) (.agg #[.string (bs []), .int .i64 0, .string (bs []), .int .u64 0, .int .u64 0, .int .u64 0, .int .u64 0, .slice none 0 0, .int .i64 0, .int .i64 0]) 10 112 10 rfl hH rfl rfl rfl (hH.row_reads 9 rfl) (by simp [Value.oneCell']) (by unfold maxLen; omega) (by omega) ?_)
 clear hH; intro v99 w100 hH
 replace hH := hH.row_eq 10 (l' := (moreR rs t).length) (xs' := rowC rvC (moreR rs t)) rfl (by unfold moreR; simp) (by unfold moreR; rw [← rowC_app, rowC_one]; first | rfl | (cases t; rfl))
 obtain ⟨A101, c102, rfl, hl103, hm104⟩ := hH.row_form 10 rfl
 replace hH := hH.n11
 refine Nl (hH.sb (slk (slk (slk (slk (slk (slk (slk (slk sln))))))))) fun hS9 => Gp1 1 [9] 28 (Pp b23 0) hS9 <| gds 10 (Ks 8 (.slice A101 ((moreR rs t).length) c102) rfl hH rfl rfl ?_)
 clear hH; intro w105 hH
 replace hH := hH.n11
 refine Nl (hH.sb (slk (slk (slk (slk (slk (slk (slk (slk sln))))))))) fun hS9 => ?_
 replace hH := hH.fr11
 obtain ⟨c2, hc9, hT2, hH9⟩ := row_frozen hH
 clear hH
 have hH := hH9
 clear hH9
 have hok2 : RvsOk c2 (moreR rs t) := more_ok (hok.mono hc9) (htk.mono hc9)
 have hsz2 := more_sizes rs t
 refine gdn [(5, .bool true), (6, Pp b20 0), (7, erV (makeF (rs.map Rv.rl)).1 fb15), (8, Pp b23 0)] <| sw_next <| sw_sr <| Gq rfl (La 8 [.slice A101 ((moreR rs t).length) c102] hH rfl rfl) <| gl_st (Sc rfl rfl (Make_ct (moreR rs t) c102 A101 c2 _ ((hc9 _ _ hg0)) hH.zin hT2 hok2 (by rw [hsz2]; omega) (tab_now hP hZ (by rw [off_nil]; exact hc) hH) (hZ.mono hc9)) ?_)
 rintro _ w117 ⟨l106, A107, A108, A109, c110, c111, c112, pl113, fb114, rfl, ho115, ho116, hF118⟩
 replace hH := hH.call hF118
 replace hH : Hp w w117 _ _ [_, _, _, _, _, _, _, _, _, _, _, _, _, _, _] := hH
 refine Go2 3 32 (.agg #[.slice A107 l106.length c110, .slice A108 ((makeF ((moreR rs t).map Rv.rl)).2.names.length) c111, .slice A109 ((makeF ((moreR rs t).map Rv.rl)).2.roots.length) c112]) 33 (erV (makeF ((moreR rs t).map Rv.rl)).1 fb114) <| gl_st (Alc [.slice none 0 0, .slice none 0 0, .slice none 0 0] rfl hH ?_)
 clear hH; intro b119 w120 hH
 replace hH : Hp w w120 _ _ [_, _, _, _, _, _, _, _, _, _, _, _, _, _, _, _] := hH
 refine gl_st (Ka 15 [.slice A107 l106.length c110, .slice A108 ((makeF ((moreR rs t).map Rv.rl)).2.names.length) c111, .slice A109 ((makeF ((moreR rs t).map Rv.rl)).2.roots.length) c112] [.slice A107 l106.length c110, .slice A108 ((makeF ((moreR rs t).map Rv.rl)).2.names.length) c111, .slice A109 ((makeF ((moreR rs t).map Rv.rl)).2.roots.length) c112] rfl hH rfl rfl ?_)
 clear hH; intro w121 hH
 replace hH : Hp w w121 _ _ [_, _, _, _, _, _, _, _, _, _, _, _, _, _, _, _] := hH
 refine Go1 1 10 (erV (makeF ((moreR rs t).map Rv.rl)).1 fb114) <| Dn <| sw_seq <| sw_sr <| Go2 4 36 (.bool false) 37 (erV (makeF (rs.map Rv.rl)).1 fb15) <| Gq rfl (rd_er_ne (by kernel_rfl) rfl) <| Go1 2 40 (.bool (!((makeF (rs.map Rv.rl)).1).isNil)) <| Gi 40 rfl (fun hg14 => ?_) (fun hg14 => ?_)
 refine Go1 3 43 (.bool true) <| Dn <| It <| sw_sr <| Go1 2 4 (.bool true) <| Dn <| Rt1 rfl rfl ?_
 exact ⟨rfl, (hH.sb sln).fresh⟩
 have hk1 : (makeF (rs.map Rv.rl)).1.isNil = true := hg14
 refine Go1 1 41 (erV (makeF ((moreR rs t).map Rv.rl)).1 fb114) <| Gq rfl (rd_er_ne (by kernel_rfl) rfl) <| Go1 1 43 (.bool (!((makeF ((moreR rs t).map Rv.rl)).1).isNil)) <| Dn <| If rfl (fun hc16 => ?_) (fun hc16 => ?_)
 refine sw_sr <| Go1 2 4 (.bool true) <| Dn <| Rt1 rfl rfl ?_
 exact ⟨rfl, (hH.sb sln).fresh⟩
 have hk2 : (makeF ((moreR rs t).map Rv.rl)).1.isNil = true := hc16
 replace hH := hH.fr7.fr7.fr7.fr7.fr7
 obtain ⟨c3, hcc3, hp1, hH9⟩ := mk_frozen ho17 hH
 clear hH
 have hH := hH9
 clear hH9
 have hO1 : Row c3 (.slice A8 l7.length c11) 7 l7.length (rowC opC l7) := hp1.ops
 have hN1 : Row c3 (.slice A9 (makeF (rs.map Rv.rl)).2.names.length c12) 1 (makeF (rs.map Rv.rl)).2.names.length (rowC sC (makeF (rs.map Rv.rl)).2.names) := hp1.names
 have hR1 : Row c3 (.slice A10 (makeF (rs.map Rv.rl)).2.roots.length c13) 1 (makeF (rs.map Rv.rl)).2.roots.length (rowC iC (makeF (rs.map Rv.rl)).2.roots) := hp1.roots
 have hE1 : OvsOk c3 l7 := hp1.each
 replace hH := hH.fr10.fr10.fr10.fr10.fr10
 obtain ⟨c4, hcc4, hp2, hH9⟩ := mk_frozen ho116 hH
 clear hH
 have hH := hH9
 clear hH9
 have hO2 : Row c4 (.slice A107 l106.length c110) 7 l106.length (rowC opC l106) := hp2.ops
 have hN2 : Row c4 (.slice A108 (makeF ((moreR rs t).map Rv.rl)).2.names.length c111) 1 (makeF ((moreR rs t).map Rv.rl)).2.names.length (rowC sC (makeF ((moreR rs t).map Rv.rl)).2.names) := hp2.names
 have hR2 : Row c4 (.slice A109 (makeF ((moreR rs t).map Rv.rl)).2.roots.length c112) 1 (makeF ((moreR rs t).map Rv.rl)).2.roots.length (rowC iC (makeF ((moreR rs t).map Rv.rl)).2.roots) := hp2.roots
 have hE2 : OvsOk c4 l106 := hp2.each
 replace hO1 := hO1.mono hcc4
 replace hN1 := hN1.mono hcc4
 replace hR1 := hR1.mono hcc4
 replace hE1 := hE1.mono hcc4
 clear hp1 hp2
 obtain ⟨hsd1, hpg1, _⟩ := mk_is hk1
 obtain ⟨hsd2, hpg2, _⟩ := mk_is hk2
 obtain ⟨hpre, kx, hroot⟩ := mk0_more (rs := rs.map Rv.rl) ⟨cmB, t.nd, 0⟩ hsd1
 rw [← more_rl] at hpre hroot
 have hop : l7.map Ov.o <+: l106.map Ov.o := by rw [ho16, ho115, hpg1, hpg2]; exact hpre
 have hol := hop.length_le
 rw [List.length_map, List.length_map] at hol
 have hnn : (makeF (rs.map Rv.rl)).2.names <+: (makeF ((moreR rs t).map Rv.rl)).2.names := by rw [hpg1, hpg2]; show _ <+: ((moreR rs t).map Rv.rl).map (·.name); rw [more_rl, List.map_append]; exact List.prefix_append _ _
 have hrr : (makeF (rs.map Rv.rl)).2.roots <+: (makeF ((moreR rs t).map Rv.rl)).2.roots := by rw [hpg1, hpg2]; show _ <+: ((mk0 ((moreR rs t).map Rv.rl)).1.map Int.ofNat); rw [hroot, List.map_append]; exact List.prefix_append _ _
 have hnl1 : (makeF (rs.map Rv.rl)).2.names.length = rs.length := by rw [hpg1]; simp
 have hrl1 : (makeF (rs.map Rv.rl)).2.roots.length = rs.length := by rw [hpg1]; show ((mk0 (rs.map Rv.rl)).1.map Int.ofNat).length = _; rw [List.length_map, mk0_roots, List.length_map]
 have hql : (moreR rs t).length = rs.length + 1 := by unfold moreR; simp
 have hnl2 : (makeF ((moreR rs t).map Rv.rl)).2.names.length = rs.length + 1 := by rw [hpg2]; simp [hql]
 have hrl2 : (makeF ((moreR rs t).map Rv.rl)).2.roots.length = rs.length + 1 := by rw [hpg2]; show ((mk0 ((moreR rs t).map Rv.rl)).1.map Int.ofNat).length = _; rw [List.length_map, mk0_roots, List.length_map, hql]
 have hs7 := row_small hO1
 have hs8 := row_small hO2
 have hs9 := row_small hT
 replace hH := hH.fr6.fr4
 replace hH := (hH.sb (slk (slk sln))).n2
 refine Sk <| sw_seq <| sw_sr <| Go1 1 45 (Pp b119 0) <| Gq rfl (Lk 1 hH rfl rfl rfl) <| Gq rfl (Ln (e := 45) rfl) <| Go1 1 48 (Pp b20 0) <| Gq rfl (Lk 0 hH rfl rfl rfl) <| Gq rfl (Ln (e := 45) rfl) <| Go1 2 52 (.bool (decide (((l106.length : Nat) : Int) < ((l7.length : Nat) : Int)))) <| Gi 52 rfl (fun hg17 => ?_) (fun hg17 => ?_)
 exfalso; have := hg17; omega
 refine Go1 1 53 (Pp b119 1) <| Gq rfl (Lk 1 hH rfl rfl rfl) <| Gq rfl (Ln (e := 9) rfl) <| Go1 1 56 (Pp b20 1) <| Gq rfl (Lk 0 hH rfl rfl rfl) <| Gq rfl (Ln (e := 9) rfl) <| glo 1 [(6, Pp b20 0), (9, Pp b119 0), (52, .bool false), (55, Ni ((makeF ((moreR rs t).map Rv.rl)).2.names.length)), (59, .int .i64 (IntKind.i64.wrap ((((makeF (rs.map Rv.rl)).2.names.length : Nat) : Int) + 1)))] <| gl_cv 59 (Ni (((makeF (rs.map Rv.rl)).2.names.length) + 1)) (cv_i64 (by omega)) rfl <| Go1 3 62 (.bool ((((makeF ((moreR rs t).map Rv.rl)).2.names.length : Nat) : Int) != ((((makeF (rs.map Rv.rl)).2.names.length) + 1 : Nat) : Int))) <| Gi 62 rfl (fun hg18 => ?_) (fun hg18 => ?_)
 exfalso; have := hg18; omega
 refine Go1 1 63 (Pp b119 2) <| Gq rfl (Lk 1 hH rfl rfl rfl) <| Gq rfl (Ln (e := 3) rfl) <| Go1 1 66 (Pp b20 2) <| Gq rfl (Lk 0 hH rfl rfl rfl) <| Gq rfl (Ln (e := 3) rfl) <| Gw0 1 69 ((((makeF (rs.map Rv.rl)).2.roots.length : Nat) : Int) + 1) ((((makeF (rs.map Rv.rl)).2.roots.length) + 1 : Nat) : Int) <| Go1 2 71 (.bool ((((makeF ((moreR rs t).map Rv.rl)).2.roots.length : Nat) : Int) != ((((makeF (rs.map Rv.rl)).2.roots.length) + 1 : Nat) : Int))) <| Dn <| If rfl (fun hc19 => ?_) (fun hc19 => ?_)
 exfalso; have := hc19; omega
 refine Sk <| sw_seq <| sw_sr <| Go1 1 11 (.int .i64 0) <| Dn <| sw_block <| Lp (γ := Nat) hH (fun i => [(6, Pp b20 0), (9, Pp b119 0), (11, Ni i)]) (fun i w_ H_ => (i ≤ rs.length) ∧ H_ [.blk b20 30 [.slice A8 l7.length c11, .slice A9 ((makeF (rs.map Rv.rl)).2.names.length) c12, .slice A10 ((makeF (rs.map Rv.rl)).2.roots.length) c13], .blk b119 30 [.slice A107 l106.length c110, .slice A108 ((makeF ((moreR rs t).map Rv.rl)).2.names.length) c111, .slice A109 ((makeF ((moreR rs t).map Rv.rl)).2.roots.length) c112]]) (fun i => rs.length - i) (0) ?_ ?_
 · exact ⟨Nat.zero_le _, hH⟩
 clear hH
 rintro i w122 ⟨hi, hH⟩
 refine swk [(6, Pp b20 0), (9, Pp b119 0), (11, Ni i)] <| sw_seq <| sw_sr <| Go2 2 72 (Ni i) 73 (Pp b20 2) <| Gq rfl (Lk 0 hH rfl rfl rfl) <| Gq rfl (Ln (e := 3) rfl) <| Go1 1 76 (.bool (decide ((i : Int) < (((makeF (rs.map Rv.rl)).2.roots.length : Nat) : Int)))) <| Dn <| If rfl (fun hc20 => ?_) (fun hc20 => ?_)
 refine Sk <| sw_seq <| sw_block <| sw_seq ?_
 obtain ⟨ra, hra⟩ : ∃ z9, (makeF (rs.map Rv.rl)).2.roots[i]? = some z9 := ⟨_, List.getElem?_eq_getElem (by omega)⟩
 obtain ⟨rb, hrb⟩ : ∃ z9, (makeF ((moreR rs t).map Rv.rl)).2.roots[i]? = some z9 := ⟨_, List.getElem?_eq_getElem (by omega)⟩
 obtain ⟨na, hna⟩ : ∃ z9, (makeF (rs.map Rv.rl)).2.names[i]? = some z9 := ⟨_, List.getElem?_eq_getElem (by omega)⟩
 obtain ⟨nb, hnb⟩ : ∃ z9, (makeF ((moreR rs t).map Rv.rl)).2.names[i]? = some z9 := ⟨_, List.getElem?_eq_getElem (by omega)⟩
 have hrq : rb = ra := pre_at hrr hra hrb
 have hnq : nb = na := pre_at hnn hna hnb
 refine Dr hH (slk (slk sln)) ?_
 clear hH; intro w123 hH hS9
 refine Gp1 1 [0] 79 (Pp b119 2) hS9 <| Dq 1 rfl (fun _ hS => (Lk 1 hS rfl rfl rfl)) hS9 ?_
 obtain ⟨p124, hi126, hp125⟩ := hR2.idx i (by omega) (by decide)
 refine Gp1 1 [2] 81 (Ni i) hS9 <| Dq 3 rfl (fun _ hS => (Ix (e := 3) 1 rfl rfl hi126)) hS9 <| Dq 4 rfl (fun _ hS => (rd_load (by kernel_rfl) rfl (hS.zin _ _ (hp125 0 _ (by decide) (rowC_at iC_len hrb 0 (by decide) rfl))))) hS9 <| Gp1 1 [5] 84 (Pp b20 2) hS9 <| Dq 6 rfl (fun _ hS => (Lk 0 hS rfl rfl rfl)) hS9 ?_
 obtain ⟨p127, hi129, hp128⟩ := hR1.idx i (by omega) (by decide)
 refine Gp1 1 [7] 86 (Ni i) hS9 <| Dq 8 rfl (fun _ hS => (Ix (e := 3) 1 rfl rfl hi129)) hS9 <| Dq 9 rfl (fun _ hS => (rd_load (by kernel_rfl) rfl (hS.zin _ _ (hp128 0 _ (by decide) (rowC_at iC_len hra 0 (by decide) rfl))))) hS9 <| Gp1 2 [10,11] 90 (.bool ((rb : Int) != (ra : Int))) hS9 <| Di 90 rfl (fun hg21 => ?_) (fun hg21 => ?_)
 exfalso; have := hg21; omega
 refine Gp1 1 [12] 91 (Pp b119 1) hS9 <| Dq 13 rfl (fun _ hS => (Lk 1 hS rfl rfl rfl)) hS9 ?_
 obtain ⟨p130, hi132, hp131⟩ := hN2.idx i (by omega) (by decide)
 refine Gp1 1 [14] 93 (Ni i) hS9 <| Dq 15 rfl (fun _ hS => (Ix (e := 9) 1 rfl rfl hi132)) hS9 <| Dq 16 rfl (fun _ hS => (rd_load (by kernel_rfl) rfl (hS.zin _ _ (hp131 0 _ (by decide) (rowC_at sC_len hnb 0 (by decide) rfl))))) hS9 <| Gp1 1 [17] 96 (Pp b20 1) hS9 <| Dq 18 rfl (fun _ hS => (Lk 0 hS rfl rfl rfl)) hS9 <| gdk [(6, Pp b20 0), (9, Pp b119 0), (11, Ni i), (90, .bool false), (95, .string (bs nb)), (97, .slice A9 ((makeF (rs.map Rv.rl)).2.names.length) c12)] ?_
 obtain ⟨p133, hi135, hp134⟩ := hN1.idx i (by omega) (by decide)
 refine Gp1 1 [19] 98 (Ni i) hS9 <| Dq 20 rfl (fun _ hS => (Ix (e := 9) 1 rfl rfl hi135)) hS9 <| Dq 21 rfl (fun _ hS => (rd_load (by kernel_rfl) rfl (hS.zin _ _ (hp134 0 _ (by decide) (rowC_at sC_len hna 0 (by decide) rfl))))) hS9 <| Dq 22 rfl (fun _ hS => (rd_sneq (by kernel_rfl) rfl rfl)) hS9 <| Gp1 1 [23] 102 (.bool (!(nb == na))) hS9 <| gdn [(6, Pp b20 0), (9, Pp b119 0), (11, Ni i), (102, .bool (!(nb == na)))] <| sw_next <| If rfl (fun hc22 => ?_) (fun hc22 => ?_)
 exfalso; exact absurd hnq (by simpa using hc22)
 refine sw_skip <| bkN <| sw_next <| sw_region <| Gw0 2 78 ((i : Int) + 1) ((i + 1 : Nat) : Int) <| Go1 1 11 (Ni (i + 1)) <| Dd <| rnd_end (g := (i)) (i + 1) (by kernel_rfl) ?_ ?_
 replace hH := (hH.sb (slk (slk sln))).n2
 · exact ⟨by omega, hH⟩
 · show rs.length - (i + 1) < rs.length - i; omega
 refine sw_exit <| thX <| thX <| bkH <| sw_next <| sw_seq <| sw_sr <| Go1 1 12 (.int .i64 0) <| Dn <| sw_block <| Lp (γ := Nat) hH (fun j => [(6, Pp b20 0), (9, Pp b119 0), (12, Ni j)]) (fun j w_ H_ => (j ≤ l7.length) ∧ H_ [.blk b20 30 [.slice A8 l7.length c11, .slice A9 ((makeF (rs.map Rv.rl)).2.names.length) c12, .slice A10 ((makeF (rs.map Rv.rl)).2.roots.length) c13], .blk b119 30 [.slice A107 l106.length c110, .slice A108 ((makeF ((moreR rs t).map Rv.rl)).2.names.length) c111, .slice A109 ((makeF ((moreR rs t).map Rv.rl)).2.roots.length) c112]]) (fun j => l7.length - j) (0) ?_ ?_
 · exact ⟨Nat.zero_le _, hH⟩
 clear hH
 rintro j w136 ⟨hj, hH⟩
 refine swk [(6, Pp b20 0), (9, Pp b119 0), (12, Ni j)] <| sw_seq <| sw_sr <| Go2 2 103 (Ni j) 104 (Pp b20 0) <| Gq rfl (Lk 0 hH rfl rfl rfl) <| Gq rfl (Ln (e := 45) rfl) <| Go1 1 107 (.bool (decide ((j : Int) < ((l7.length : Nat) : Int)))) <| Dn <| If rfl (fun hc23 => ?_) (fun hc23 => ?_)
 refine Sk <| sw_seq <| sw_block <| sw_seq ?_
 obtain ⟨xa, hxa⟩ : ∃ z9, l7[j]? = some z9 := ⟨_, List.getElem?_eq_getElem (by omega)⟩
 obtain ⟨xb, hxb⟩ : ∃ z9, l106[j]? = some z9 := ⟨_, List.getElem?_eq_getElem (by omega)⟩
 have hxq : xb.o = xa.o := pre_at hop (map_at hxa) (map_at hxb)
 have hok_xa := hE1 xa (List.mem_of_getElem? hxa)
 have hok_xb := hE2 xb (List.mem_of_getElem? hxb)
 have hs5 := row_small hok_xa.row
 have hs6 := row_small hok_xb.row
 have hxk : xb.o.k = xa.o.k := by rw [hxq]
 have hxt : xb.o.t = xa.o.t := by rw [hxq]
 have hxs : xb.o.s.length = xa.o.s.length := by rw [hxq]
 refine Dr hH (slk (slk sln)) ?_
 clear hH; intro w137 hH hS9
 refine Gp1 1 [0] 110 (Pp b119 0) hS9 <| Dq 1 rfl (fun _ hS => (Lk 1 hS rfl rfl rfl)) hS9 ?_
 obtain ⟨p138, hi140, hp139⟩ := hO2.idx j (by omega) (by decide)
 refine Gp1 1 [2] 112 (Ni j) hS9 <| Dq 3 rfl (fun _ hS => (Ix (e := 45) 7 rfl rfl hi140)) hS9 <| Gp1 1 [4] 114 (.pointer (some p138)) hS9 <| Dq 5 rfl (fun _ hS => (rd_load (by kernel_rfl) rfl (hS.zin _ _ (hp139 0 _ (by decide) (rowC_at opC_len hxb 0 (by decide) rfl))))) hS9 <| Gp1 1 [6] 116 (Pp b20 0) hS9 <| Dq 7 rfl (fun _ hS => (Lk 0 hS rfl rfl rfl)) hS9 ?_
 obtain ⟨p141, hi143, hp142⟩ := hO1.idx j (by omega) (by decide)
 refine Gp1 1 [8] 118 (Ni j) hS9 <| Dq 9 rfl (fun _ hS => (Ix (e := 45) 7 rfl rfl hi143)) hS9 <| Gp1 1 [10] 120 (.pointer (some p141)) hS9 <| Dq 11 rfl (fun _ hS => (rd_load (by kernel_rfl) rfl (hS.zin _ _ (hp142 0 _ (by decide) (rowC_at opC_len hxa 0 (by decide) rfl))))) hS9 <| Gp1 2 [12,13] 123 (.bool ((xb.o.k : Int) != (xa.o.k : Int))) hS9 <| Di 123 rfl (fun hg24 => ?_) (fun hg24 => ?_)
 exfalso; have := hg24; omega
 refine Gp1 1 [14] 124 (Pp b119 0) hS9 <| Dq 15 rfl (fun _ hS => (Lk 1 hS rfl rfl rfl)) hS9 ?_
 obtain ⟨p144, hi146, hp145⟩ := hO2.idx j (by omega) (by decide)
 refine Gp1 1 [16] 126 (Ni j) hS9 <| Dq 17 rfl (fun _ hS => (Ix (e := 45) 7 rfl rfl hi146)) hS9 <| gdk [(6, Pp b20 0), (9, Pp b119 0), (12, Ni j), (123, .bool false), (127, .pointer (some p144))] <| Gp1 1 [18] 128 (.pointer (some (p144.add 1))) hS9 <| Dq 19 rfl (fun _ hS => (rd_load (by kernel_rfl) rfl (hS.zin _ _ (hp145 1 _ (by decide) (rowC_at opC_len hxb 1 (by decide) rfl))))) hS9 <| Gp1 1 [20] 130 (Pp b20 0) hS9 <| Dq 21 rfl (fun _ hS => (Lk 0 hS rfl rfl rfl)) hS9 ?_
 obtain ⟨p147, hi149, hp148⟩ := hO1.idx j (by omega) (by decide)
 refine Gp1 1 [22] 132 (Ni j) hS9 <| Dq 23 rfl (fun _ hS => (Ix (e := 45) 7 rfl rfl hi149)) hS9 <| Gp1 1 [24] 134 (.pointer (some (p147.add 1))) hS9 <| Dq 25 rfl (fun _ hS => (rd_load (by kernel_rfl) rfl (hS.zin _ _ (hp148 1 _ (by decide) (rowC_at opC_len hxa 1 (by decide) rfl))))) hS9 <| Dq 26 rfl (fun _ hS => (rd_sneq (by kernel_rfl) rfl rfl)) hS9 <| Gp1 2 [27,28] 138 (.bool (!(xb.o.t == xa.o.t))) hS9 <| Di 138 rfl (fun hg25 => ?_) (fun hg25 => ?_)
 exact absurd hxt hg25
 refine Gp1 1 [29] 139 (Pp b119 0) hS9 <| Dq 30 rfl (fun _ hS => (Lk 1 hS rfl rfl rfl)) hS9 ?_
 obtain ⟨p150, hi152, hp151⟩ := hO2.idx j (by omega) (by decide)
 refine Gp1 1 [31] 141 (Ni j) hS9 <| Dq 32 rfl (fun _ hS => (Ix (e := 45) 7 rfl rfl hi152)) hS9 <| Gp1 1 [33] 143 (.pointer (some (p150.add 6))) hS9 <| Dq 34 rfl (fun _ hS => (rd_load (by kernel_rfl) rfl (hS.zin _ _ (hp151 6 _ (by decide) (rowC_at opC_len hxb 6 (by decide) rfl))))) hS9 <| Dq 35 rfl (fun _ hS => (Ln (e := 3) rfl)) hS9 <| Gp1 1 [36] 146 (Pp b20 0) hS9 <| Dq 37 rfl (fun _ hS => (Lk 0 hS rfl rfl rfl)) hS9 ?_
 obtain ⟨p153, hi155, hp154⟩ := hO1.idx j (by omega) (by decide)
 refine Gp1 1 [38] 148 (Ni j) hS9 <| Dq 39 rfl (fun _ hS => (Ix (e := 45) 7 rfl rfl hi155)) hS9 <| gdk [(6, Pp b20 0), (9, Pp b119 0), (12, Ni j), (138, .bool false), (145, Ni xb.o.s.length), (149, .pointer (some p153))] <| Gp1 1 [40] 150 (.pointer (some (p153.add 6))) hS9 <| Dq 41 rfl (fun _ hS => (rd_load (by kernel_rfl) rfl (hS.zin _ _ (hp154 6 _ (by decide) (rowC_at opC_len hxa 6 (by decide) rfl))))) hS9 <| Dq 42 rfl (fun _ hS => (Ln (e := 3) rfl)) hS9 <| Gp1 2 [43,44] 154 (.bool (((xb.o.s.length : Nat) : Int) != ((xa.o.s.length : Nat) : Int))) hS9 <| gdn [(6, Pp b20 0), (9, Pp b119 0), (12, Ni j), (154, .bool (((xb.o.s.length : Nat) : Int) != ((xa.o.s.length : Nat) : Int)))] <| sw_next <| If rfl (fun hc26 => ?_) (fun hc26 => ?_)
 exfalso; have := hc26; omega
 refine sw_skip <| bkN <| sw_next <| sw_region <| Gw0 2 109 ((j : Int) + 1) ((j + 1 : Nat) : Int) <| Go1 1 12 (Ni (j + 1)) <| Dd <| rnd_end (g := (j)) (j + 1) (by kernel_rfl) ?_ ?_
 replace hH := (hH.sb (slk (slk sln))).n2
 · exact ⟨by omega, hH⟩
 · show l7.length - (j + 1) < l7.length - j; omega
 refine sw_exit <| thX <| thX <| bkH <| sw_next <| sw_sr <| Go1 1 4 (.bool true) <| Dn <| Rt1 rfl rfl ?_
 exact ⟨rfl, (hH.sb sln).fresh⟩
 refine st_buildS (e := 43) (zv := .agg #[.string (bs []), .int .i64 0, .string (bs []), .int .u64 0, .int .u64 0, .int .u64 0, .int .u64 0, .slice none 0 0, .int .i64 0, .int .i64 0]) (m := 10) (bytes := 112) rfl rfl rfl (by kernel_rfl) (by kernel_rfl) rfl (cs := [.string (bs [99, 111, 100, 101, 109, 111, 114, 101]), .int .i64 t.kind, .string (bs t.text), .int .u64 ((t.cl.a : Nat) : Int), .int .u64 ((t.cl.b : Nat) : Int), .int .u64 ((t.cl.c : Nat) : Int), .int .u64 ((t.cl.d : Nat) : Int), .slice t.A t.subs.length t.cap, .int .i64 t.pos, .int .i64 0]) (by kernel_rfl) rfl hH ?_
 clear hH; intro b156 w157 hH
 replace hH := hH.n10
 refine Nl (hH.sb (slk (slk (slk (slk (slk (slk (slk (slk sln))))))))) fun hS9 => gdk [(5, .bool true), (6, Pp b20 0), (7, erV (makeF (rs.map Rv.rl)).1 fb15), (8, Pp b23 0), (19, Pp b23 0), (22, .slice A rs.length cap), (26, .slice (some ⟨b156, 0, none⟩) 1 1)] <| gds 1 (st_q rfl rfl rfl (Lk 8 hH rfl rfl rfl) ?_)
 refine Nl hS9 fun hS9 => ?_
 replace hH := hH.nilRow 43 10
 refine gds 4 (Apd (e := 43) (.agg #[.string (bs []), .int .i64 0, .string (bs []), .int .u64 0, .int .u64 0, .int .u64 0, .int .u64 0, .slice none 0 0, .int .i64 0, .int .i64 0]) 10 112 10 rfl hH rfl rfl rfl (hT.mono hH.zin) (rvC_one rs) (by unfold maxLen; omega) (by omega) ?_)
 clear hH; intro v158 w159 hH
 obtain ⟨A160, c161, rfl, hl162, hm163⟩ := hH.row_form 10 rfl
 replace hH := hH.n11
 refine Nl (hH.sb (slk (slk (slk (slk (slk (slk (slk (slk sln))))))))) fun hS9 => gds 8 (Apd (e := 43) (.agg #[.string (bs []), .int .i64 0, .string (bs []), .int .u64 0, .int .u64 0, .int .u64 0, .int .u64 0, .slice none 0 0, .int .i64 0, .int .i64 0]) 10 112 10 rfl hH rfl rfl rfl (hH.row_reads 9 rfl) (by simp [Value.oneCell']) (by unfold maxLen; omega) (by omega) ?_)
 clear hH; intro v164 w165 hH
 replace hH := hH.row_eq 10 (l' := (moreR rs t).length) (xs' := rowC rvC (moreR rs t)) rfl (by unfold moreR; simp) (by unfold moreR; rw [← rowC_app, rowC_one]; first | rfl | (cases t; rfl))
 obtain ⟨A166, c167, rfl, hl168, hm169⟩ := hH.row_form 10 rfl
 replace hH := hH.n11
 refine Nl (hH.sb (slk (slk (slk (slk (slk (slk (slk (slk sln))))))))) fun hS9 => Gp1 1 [9] 28 (Pp b23 0) hS9 <| gds 10 (Ks 8 (.slice A166 ((moreR rs t).length) c167) rfl hH rfl rfl ?_)
 clear hH; intro w170 hH
 replace hH := hH.n11
 refine Nl (hH.sb (slk (slk (slk (slk (slk (slk (slk (slk sln))))))))) fun hS9 => ?_
 replace hH := hH.fr11
 obtain ⟨c2, hc9, hT2, hH9⟩ := row_frozen hH
 clear hH
 have hH := hH9
 clear hH9
 have hok2 : RvsOk c2 (moreR rs t) := more_ok (hok.mono hc9) (htk.mono hc9)
 have hsz2 := more_sizes rs t
 refine gdn [(5, .bool true), (6, Pp b20 0), (7, erV (makeF (rs.map Rv.rl)).1 fb15), (8, Pp b23 0)] <| sw_next <| sw_sr <| Gq rfl (La 8 [.slice A166 ((moreR rs t).length) c167] hH rfl rfl) <| gl_st (Sc rfl rfl (Make_ct (moreR rs t) c167 A166 c2 _ ((hc9 _ _ hg0)) hH.zin hT2 hok2 (by rw [hsz2]; omega) (tab_now hP hZ (by rw [off_nil]; exact hc) hH) (hZ.mono hc9)) ?_)
 rintro _ w182 ⟨l171, A172, A173, A174, c175, c176, c177, pl178, fb179, rfl, ho180, ho181, hF183⟩
 replace hH := hH.call hF183
 replace hH : Hp w w182 _ _ [_, _, _, _, _, _, _, _, _, _, _, _, _, _, _] := hH
 refine Go2 3 32 (.agg #[.slice A172 l171.length c175, .slice A173 ((makeF ((moreR rs t).map Rv.rl)).2.names.length) c176, .slice A174 ((makeF ((moreR rs t).map Rv.rl)).2.roots.length) c177]) 33 (erV (makeF ((moreR rs t).map Rv.rl)).1 fb179) <| gl_st (Alc [.slice none 0 0, .slice none 0 0, .slice none 0 0] rfl hH ?_)
 clear hH; intro b184 w185 hH
 replace hH : Hp w w185 _ _ [_, _, _, _, _, _, _, _, _, _, _, _, _, _, _, _] := hH
 refine gl_st (Ka 15 [.slice A172 l171.length c175, .slice A173 ((makeF ((moreR rs t).map Rv.rl)).2.names.length) c176, .slice A174 ((makeF ((moreR rs t).map Rv.rl)).2.roots.length) c177] [.slice A172 l171.length c175, .slice A173 ((makeF ((moreR rs t).map Rv.rl)).2.names.length) c176, .slice A174 ((makeF ((moreR rs t).map Rv.rl)).2.roots.length) c177] rfl hH rfl rfl ?_)
 clear hH; intro w186 hH
 replace hH : Hp w w186 _ _ [_, _, _, _, _, _, _, _, _, _, _, _, _, _, _, _] := hH
 refine Go1 1 10 (erV (makeF ((moreR rs t).map Rv.rl)).1 fb179) <| Dn <| sw_seq <| sw_sr <| Go2 4 36 (.bool false) 37 (erV (makeF (rs.map Rv.rl)).1 fb15) <| Gq rfl (rd_er_ne (by kernel_rfl) rfl) <| Go1 2 40 (.bool (!((makeF (rs.map Rv.rl)).1).isNil)) <| Gi 40 rfl (fun hg27 => ?_) (fun hg27 => ?_)
 refine Go1 3 43 (.bool true) <| Dn <| It <| sw_sr <| Go1 2 4 (.bool true) <| Dn <| Rt1 rfl rfl ?_
 exact ⟨rfl, (hH.sb sln).fresh⟩
 have hk1 : (makeF (rs.map Rv.rl)).1.isNil = true := hg27
 refine Go1 1 41 (erV (makeF ((moreR rs t).map Rv.rl)).1 fb179) <| Gq rfl (rd_er_ne (by kernel_rfl) rfl) <| Go1 1 43 (.bool (!((makeF ((moreR rs t).map Rv.rl)).1).isNil)) <| Dn <| If rfl (fun hc29 => ?_) (fun hc29 => ?_)
 refine sw_sr <| Go1 2 4 (.bool true) <| Dn <| Rt1 rfl rfl ?_
 exact ⟨rfl, (hH.sb sln).fresh⟩
 have hk2 : (makeF ((moreR rs t).map Rv.rl)).1.isNil = true := hc29
 replace hH := hH.fr7.fr7.fr7.fr7.fr7
 obtain ⟨c3, hcc3, hp1, hH9⟩ := mk_frozen ho17 hH
 clear hH
 have hH := hH9
 clear hH9
 have hO1 : Row c3 (.slice A8 l7.length c11) 7 l7.length (rowC opC l7) := hp1.ops
 have hN1 : Row c3 (.slice A9 (makeF (rs.map Rv.rl)).2.names.length c12) 1 (makeF (rs.map Rv.rl)).2.names.length (rowC sC (makeF (rs.map Rv.rl)).2.names) := hp1.names
 have hR1 : Row c3 (.slice A10 (makeF (rs.map Rv.rl)).2.roots.length c13) 1 (makeF (rs.map Rv.rl)).2.roots.length (rowC iC (makeF (rs.map Rv.rl)).2.roots) := hp1.roots
 have hE1 : OvsOk c3 l7 := hp1.each
 replace hH := hH.fr10.fr10.fr10.fr10.fr10
 obtain ⟨c4, hcc4, hp2, hH9⟩ := mk_frozen ho181 hH
 clear hH
 have hH := hH9
 clear hH9
 have hO2 : Row c4 (.slice A172 l171.length c175) 7 l171.length (rowC opC l171) := hp2.ops
 have hN2 : Row c4 (.slice A173 (makeF ((moreR rs t).map Rv.rl)).2.names.length c176) 1 (makeF ((moreR rs t).map Rv.rl)).2.names.length (rowC sC (makeF ((moreR rs t).map Rv.rl)).2.names) := hp2.names
 have hR2 : Row c4 (.slice A174 (makeF ((moreR rs t).map Rv.rl)).2.roots.length c177) 1 (makeF ((moreR rs t).map Rv.rl)).2.roots.length (rowC iC (makeF ((moreR rs t).map Rv.rl)).2.roots) := hp2.roots
 have hE2 : OvsOk c4 l171 := hp2.each
 replace hO1 := hO1.mono hcc4
 replace hN1 := hN1.mono hcc4
 replace hR1 := hR1.mono hcc4
 replace hE1 := hE1.mono hcc4
 clear hp1 hp2
 obtain ⟨hsd1, hpg1, _⟩ := mk_is hk1
 obtain ⟨hsd2, hpg2, _⟩ := mk_is hk2
 obtain ⟨hpre, kx, hroot⟩ := mk0_more (rs := rs.map Rv.rl) ⟨cmB, t.nd, 0⟩ hsd1
 rw [← more_rl] at hpre hroot
 have hop : l7.map Ov.o <+: l171.map Ov.o := by rw [ho16, ho180, hpg1, hpg2]; exact hpre
 have hol := hop.length_le
 rw [List.length_map, List.length_map] at hol
 have hnn : (makeF (rs.map Rv.rl)).2.names <+: (makeF ((moreR rs t).map Rv.rl)).2.names := by rw [hpg1, hpg2]; show _ <+: ((moreR rs t).map Rv.rl).map (·.name); rw [more_rl, List.map_append]; exact List.prefix_append _ _
 have hrr : (makeF (rs.map Rv.rl)).2.roots <+: (makeF ((moreR rs t).map Rv.rl)).2.roots := by rw [hpg1, hpg2]; show _ <+: ((mk0 ((moreR rs t).map Rv.rl)).1.map Int.ofNat); rw [hroot, List.map_append]; exact List.prefix_append _ _
 have hnl1 : (makeF (rs.map Rv.rl)).2.names.length = rs.length := by rw [hpg1]; simp
 have hrl1 : (makeF (rs.map Rv.rl)).2.roots.length = rs.length := by rw [hpg1]; show ((mk0 (rs.map Rv.rl)).1.map Int.ofNat).length = _; rw [List.length_map, mk0_roots, List.length_map]
 have hql : (moreR rs t).length = rs.length + 1 := by unfold moreR; simp
 have hnl2 : (makeF ((moreR rs t).map Rv.rl)).2.names.length = rs.length + 1 := by rw [hpg2]; simp [hql]
 have hrl2 : (makeF ((moreR rs t).map Rv.rl)).2.roots.length = rs.length + 1 := by rw [hpg2]; show ((mk0 ((moreR rs t).map Rv.rl)).1.map Int.ofNat).length = _; rw [List.length_map, mk0_roots, List.length_map, hql]
 have hs7 := row_small hO1
 have hs8 := row_small hO2
 have hs9 := row_small hT
 replace hH := hH.fr6.fr4
 replace hH := (hH.sb (slk (slk sln))).n2
 refine Sk <| sw_seq <| sw_sr <| Go1 1 45 (Pp b184 0) <| Gq rfl (Lk 1 hH rfl rfl rfl) <| Gq rfl (Ln (e := 45) rfl) <| Go1 1 48 (Pp b20 0) <| Gq rfl (Lk 0 hH rfl rfl rfl) <| Gq rfl (Ln (e := 45) rfl) <| Go1 2 52 (.bool (decide (((l171.length : Nat) : Int) < ((l7.length : Nat) : Int)))) <| Gi 52 rfl (fun hg30 => ?_) (fun hg30 => ?_)
 exfalso; have := hg30; omega
 refine Go1 1 53 (Pp b184 1) <| Gq rfl (Lk 1 hH rfl rfl rfl) <| Gq rfl (Ln (e := 9) rfl) <| Go1 1 56 (Pp b20 1) <| Gq rfl (Lk 0 hH rfl rfl rfl) <| Gq rfl (Ln (e := 9) rfl) <| glo 1 [(6, Pp b20 0), (9, Pp b184 0), (52, .bool false), (55, Ni ((makeF ((moreR rs t).map Rv.rl)).2.names.length)), (59, .int .i64 (IntKind.i64.wrap ((((makeF (rs.map Rv.rl)).2.names.length : Nat) : Int) + 1)))] <| gl_cv 59 (Ni (((makeF (rs.map Rv.rl)).2.names.length) + 1)) (cv_i64 (by omega)) rfl <| Go1 3 62 (.bool ((((makeF ((moreR rs t).map Rv.rl)).2.names.length : Nat) : Int) != ((((makeF (rs.map Rv.rl)).2.names.length) + 1 : Nat) : Int))) <| Gi 62 rfl (fun hg31 => ?_) (fun hg31 => ?_)
 exfalso; have := hg31; omega
 refine Go1 1 63 (Pp b184 2) <| Gq rfl (Lk 1 hH rfl rfl rfl) <| Gq rfl (Ln (e := 3) rfl) <| Go1 1 66 (Pp b20 2) <| Gq rfl (Lk 0 hH rfl rfl rfl) <| Gq rfl (Ln (e := 3) rfl) <| Gw0 1 69 ((((makeF (rs.map Rv.rl)).2.roots.length : Nat) : Int) + 1) ((((makeF (rs.map Rv.rl)).2.roots.length) + 1 : Nat) : Int) <| Go1 2 71 (.bool ((((makeF ((moreR rs t).map Rv.rl)).2.roots.length : Nat) : Int) != ((((makeF (rs.map Rv.rl)).2.roots.length) + 1 : Nat) : Int))) <| Dn <| If rfl (fun hc32 => ?_) (fun hc32 => ?_)
 exfalso; have := hc32; omega
 refine Sk <| sw_seq <| sw_sr <| Go1 1 11 (.int .i64 0) <| Dn <| sw_block <| Lp (γ := Nat) hH (fun i => [(6, Pp b20 0), (9, Pp b184 0), (11, Ni i)]) (fun i w_ H_ => (i ≤ rs.length) ∧ H_ [.blk b20 30 [.slice A8 l7.length c11, .slice A9 ((makeF (rs.map Rv.rl)).2.names.length) c12, .slice A10 ((makeF (rs.map Rv.rl)).2.roots.length) c13], .blk b184 30 [.slice A172 l171.length c175, .slice A173 ((makeF ((moreR rs t).map Rv.rl)).2.names.length) c176, .slice A174 ((makeF ((moreR rs t).map Rv.rl)).2.roots.length) c177]]) (fun i => rs.length - i) (0) ?_ ?_
 · exact ⟨Nat.zero_le _, hH⟩
 clear hH
 rintro i w187 ⟨hi, hH⟩
 refine swk [(6, Pp b20 0), (9, Pp b184 0), (11, Ni i)] <| sw_seq <| sw_sr <| Go2 2 72 (Ni i) 73 (Pp b20 2) <| Gq rfl (Lk 0 hH rfl rfl rfl) <| Gq rfl (Ln (e := 3) rfl) <| Go1 1 76 (.bool (decide ((i : Int) < (((makeF (rs.map Rv.rl)).2.roots.length : Nat) : Int)))) <| Dn <| If rfl (fun hc33 => ?_) (fun hc33 => ?_)
 refine Sk <| sw_seq <| sw_block <| sw_seq ?_
 obtain ⟨ra, hra⟩ : ∃ z9, (makeF (rs.map Rv.rl)).2.roots[i]? = some z9 := ⟨_, List.getElem?_eq_getElem (by omega)⟩
 obtain ⟨rb, hrb⟩ : ∃ z9, (makeF ((moreR rs t).map Rv.rl)).2.roots[i]? = some z9 := ⟨_, List.getElem?_eq_getElem (by omega)⟩
 obtain ⟨na, hna⟩ : ∃ z9, (makeF (rs.map Rv.rl)).2.names[i]? = some z9 := ⟨_, List.getElem?_eq_getElem (by omega)⟩
 obtain ⟨nb, hnb⟩ : ∃ z9, (makeF ((moreR rs t).map Rv.rl)).2.names[i]? = some z9 := ⟨_, List.getElem?_eq_getElem (by omega)⟩
 have hrq : rb = ra := pre_at hrr hra hrb
 have hnq : nb = na := pre_at hnn hna hnb
 refine Dr hH (slk (slk sln)) ?_
 clear hH; intro w188 hH hS9
 refine Gp1 1 [0] 79 (Pp b184 2) hS9 <| Dq 1 rfl (fun _ hS => (Lk 1 hS rfl rfl rfl)) hS9 ?_
 obtain ⟨p189, hi191, hp190⟩ := hR2.idx i (by omega) (by decide)
 refine Gp1 1 [2] 81 (Ni i) hS9 <| Dq 3 rfl (fun _ hS => (Ix (e := 3) 1 rfl rfl hi191)) hS9 <| Dq 4 rfl (fun _ hS => (rd_load (by kernel_rfl) rfl (hS.zin _ _ (hp190 0 _ (by decide) (rowC_at iC_len hrb 0 (by decide) rfl))))) hS9 <| Gp1 1 [5] 84 (Pp b20 2) hS9 <| Dq 6 rfl (fun _ hS => (Lk 0 hS rfl rfl rfl)) hS9 ?_
 obtain ⟨p192, hi194, hp193⟩ := hR1.idx i (by omega) (by decide)
 refine Gp1 1 [7] 86 (Ni i) hS9 <| Dq 8 rfl (fun _ hS => (Ix (e := 3) 1 rfl rfl hi194)) hS9 <| Dq 9 rfl (fun _ hS => (rd_load (by kernel_rfl) rfl (hS.zin _ _ (hp193 0 _ (by decide) (rowC_at iC_len hra 0 (by decide) rfl))))) hS9 <| Gp1 2 [10,11] 90 (.bool ((rb : Int) != (ra : Int))) hS9 <| Di 90 rfl (fun hg34 => ?_) (fun hg34 => ?_)
 exfalso; have := hg34; omega
 refine Gp1 1 [12] 91 (Pp b184 1) hS9 <| Dq 13 rfl (fun _ hS => (Lk 1 hS rfl rfl rfl)) hS9 ?_
 obtain ⟨p195, hi197, hp196⟩ := hN2.idx i (by omega) (by decide)
 refine Gp1 1 [14] 93 (Ni i) hS9 <| Dq 15 rfl (fun _ hS => (Ix (e := 9) 1 rfl rfl hi197)) hS9 <| Dq 16 rfl (fun _ hS => (rd_load (by kernel_rfl) rfl (hS.zin _ _ (hp196 0 _ (by decide) (rowC_at sC_len hnb 0 (by decide) rfl))))) hS9 <| Gp1 1 [17] 96 (Pp b20 1) hS9 <| Dq 18 rfl (fun _ hS => (Lk 0 hS rfl rfl rfl)) hS9 <| gdk [(6, Pp b20 0), (9, Pp b184 0), (11, Ni i), (90, .bool false), (95, .string (bs nb)), (97, .slice A9 ((makeF (rs.map Rv.rl)).2.names.length) c12)] ?_
 obtain ⟨p198, hi200, hp199⟩ := hN1.idx i (by omega) (by decide)
 refine Gp1 1 [19] 98 (Ni i) hS9 <| Dq 20 rfl (fun _ hS => (Ix (e := 9) 1 rfl rfl hi200)) hS9 <| Dq 21 rfl (fun _ hS => (rd_load (by kernel_rfl) rfl (hS.zin _ _ (hp199 0 _ (by decide) (rowC_at sC_len hna 0 (by decide) rfl))))) hS9 <| Dq 22 rfl (fun _ hS => (rd_sneq (by kernel_rfl) rfl rfl)) hS9 <| Gp1 1 [23] 102 (.bool (!(nb == na))) hS9 <| gdn [(6, Pp b20 0), (9, Pp b184 0), (11, Ni i), (102, .bool (!(nb == na)))] <| sw_next <| If rfl (fun hc35 => ?_) (fun hc35 => ?_)
 exfalso; exact absurd hnq (by simpa using hc35)
 refine sw_skip <| bkN <| sw_next <| sw_region <| Gw0 2 78 ((i : Int) + 1) ((i + 1 : Nat) : Int) <| Go1 1 11 (Ni (i + 1)) <| Dd <| rnd_end (g := (i)) (i + 1) (by kernel_rfl) ?_ ?_
 replace hH := (hH.sb (slk (slk sln))).n2
 · exact ⟨by omega, hH⟩
 · show rs.length - (i + 1) < rs.length - i; omega
 refine sw_exit <| thX <| thX <| bkH <| sw_next <| sw_seq <| sw_sr <| Go1 1 12 (.int .i64 0) <| Dn <| sw_block <| Lp (γ := Nat) hH (fun j => [(6, Pp b20 0), (9, Pp b184 0), (12, Ni j)]) (fun j w_ H_ => (j ≤ l7.length) ∧ H_ [.blk b20 30 [.slice A8 l7.length c11, .slice A9 ((makeF (rs.map Rv.rl)).2.names.length) c12, .slice A10 ((makeF (rs.map Rv.rl)).2.roots.length) c13], .blk b184 30 [.slice A172 l171.length c175, .slice A173 ((makeF ((moreR rs t).map Rv.rl)).2.names.length) c176, .slice A174 ((makeF ((moreR rs t).map Rv.rl)).2.roots.length) c177]]) (fun j => l7.length - j) (0) ?_ ?_
 · exact ⟨Nat.zero_le _, hH⟩
 clear hH
 rintro j w201 ⟨hj, hH⟩
 refine swk [(6, Pp b20 0), (9, Pp b184 0), (12, Ni j)] <| sw_seq <| sw_sr <| Go2 2 103 (Ni j) 104 (Pp b20 0) <| Gq rfl (Lk 0 hH rfl rfl rfl) <| Gq rfl (Ln (e := 45) rfl) <| Go1 1 107 (.bool (decide ((j : Int) < ((l7.length : Nat) : Int)))) <| Dn <| If rfl (fun hc36 => ?_) (fun hc36 => ?_)
 refine Sk <| sw_seq <| sw_block <| sw_seq ?_
 obtain ⟨xa, hxa⟩ : ∃ z9, l7[j]? = some z9 := ⟨_, List.getElem?_eq_getElem (by omega)⟩
 obtain ⟨xb, hxb⟩ : ∃ z9, l171[j]? = some z9 := ⟨_, List.getElem?_eq_getElem (by omega)⟩
 have hxq : xb.o = xa.o := pre_at hop (map_at hxa) (map_at hxb)
 have hok_xa := hE1 xa (List.mem_of_getElem? hxa)
 have hok_xb := hE2 xb (List.mem_of_getElem? hxb)
 have hs5 := row_small hok_xa.row
 have hs6 := row_small hok_xb.row
 have hxk : xb.o.k = xa.o.k := by rw [hxq]
 have hxt : xb.o.t = xa.o.t := by rw [hxq]
 have hxs : xb.o.s.length = xa.o.s.length := by rw [hxq]
 refine Dr hH (slk (slk sln)) ?_
 clear hH; intro w202 hH hS9
 refine Gp1 1 [0] 110 (Pp b184 0) hS9 <| Dq 1 rfl (fun _ hS => (Lk 1 hS rfl rfl rfl)) hS9 ?_
 obtain ⟨p203, hi205, hp204⟩ := hO2.idx j (by omega) (by decide)
 refine Gp1 1 [2] 112 (Ni j) hS9 <| Dq 3 rfl (fun _ hS => (Ix (e := 45) 7 rfl rfl hi205)) hS9 <| Gp1 1 [4] 114 (.pointer (some p203)) hS9 <| Dq 5 rfl (fun _ hS => (rd_load (by kernel_rfl) rfl (hS.zin _ _ (hp204 0 _ (by decide) (rowC_at opC_len hxb 0 (by decide) rfl))))) hS9 <| Gp1 1 [6] 116 (Pp b20 0) hS9 <| Dq 7 rfl (fun _ hS => (Lk 0 hS rfl rfl rfl)) hS9 ?_
 obtain ⟨p206, hi208, hp207⟩ := hO1.idx j (by omega) (by decide)
 refine Gp1 1 [8] 118 (Ni j) hS9 <| Dq 9 rfl (fun _ hS => (Ix (e := 45) 7 rfl rfl hi208)) hS9 <| Gp1 1 [10] 120 (.pointer (some p206)) hS9 <| Dq 11 rfl (fun _ hS => (rd_load (by kernel_rfl) rfl (hS.zin _ _ (hp207 0 _ (by decide) (rowC_at opC_len hxa 0 (by decide) rfl))))) hS9 <| Gp1 2 [12,13] 123 (.bool ((xb.o.k : Int) != (xa.o.k : Int))) hS9 <| Di 123 rfl (fun hg37 => ?_) (fun hg37 => ?_)
 exfalso; have := hg37; omega
 refine Gp1 1 [14] 124 (Pp b184 0) hS9 <| Dq 15 rfl (fun _ hS => (Lk 1 hS rfl rfl rfl)) hS9 ?_
 obtain ⟨p209, hi211, hp210⟩ := hO2.idx j (by omega) (by decide)
 refine Gp1 1 [16] 126 (Ni j) hS9 <| Dq 17 rfl (fun _ hS => (Ix (e := 45) 7 rfl rfl hi211)) hS9 <| gdk [(6, Pp b20 0), (9, Pp b184 0), (12, Ni j), (123, .bool false), (127, .pointer (some p209))] <| Gp1 1 [18] 128 (.pointer (some (p209.add 1))) hS9 <| Dq 19 rfl (fun _ hS => (rd_load (by kernel_rfl) rfl (hS.zin _ _ (hp210 1 _ (by decide) (rowC_at opC_len hxb 1 (by decide) rfl))))) hS9 <| Gp1 1 [20] 130 (Pp b20 0) hS9 <| Dq 21 rfl (fun _ hS => (Lk 0 hS rfl rfl rfl)) hS9 ?_
 obtain ⟨p212, hi214, hp213⟩ := hO1.idx j (by omega) (by decide)
 refine Gp1 1 [22] 132 (Ni j) hS9 <| Dq 23 rfl (fun _ hS => (Ix (e := 45) 7 rfl rfl hi214)) hS9 <| Gp1 1 [24] 134 (.pointer (some (p212.add 1))) hS9 <| Dq 25 rfl (fun _ hS => (rd_load (by kernel_rfl) rfl (hS.zin _ _ (hp213 1 _ (by decide) (rowC_at opC_len hxa 1 (by decide) rfl))))) hS9 <| Dq 26 rfl (fun _ hS => (rd_sneq (by kernel_rfl) rfl rfl)) hS9 <| Gp1 2 [27,28] 138 (.bool (!(xb.o.t == xa.o.t))) hS9 <| Di 138 rfl (fun hg38 => ?_) (fun hg38 => ?_)
 exact absurd hxt hg38
 refine Gp1 1 [29] 139 (Pp b184 0) hS9 <| Dq 30 rfl (fun _ hS => (Lk 1 hS rfl rfl rfl)) hS9 ?_
 obtain ⟨p215, hi217, hp216⟩ := hO2.idx j (by omega) (by decide)
 refine Gp1 1 [31] 141 (Ni j) hS9 <| Dq 32 rfl (fun _ hS => (Ix (e := 45) 7 rfl rfl hi217)) hS9 <| Gp1 1 [33] 143 (.pointer (some (p215.add 6))) hS9 <| Dq 34 rfl (fun _ hS => (rd_load (by kernel_rfl) rfl (hS.zin _ _ (hp216 6 _ (by decide) (rowC_at opC_len hxb 6 (by decide) rfl))))) hS9 <| Dq 35 rfl (fun _ hS => (Ln (e := 3) rfl)) hS9 <| Gp1 1 [36] 146 (Pp b20 0) hS9 <| Dq 37 rfl (fun _ hS => (Lk 0 hS rfl rfl rfl)) hS9 ?_
 obtain ⟨p218, hi220, hp219⟩ := hO1.idx j (by omega) (by decide)
 refine Gp1 1 [38] 148 (Ni j) hS9 <| Dq 39 rfl (fun _ hS => (Ix (e := 45) 7 rfl rfl hi220)) hS9 <| gdk [(6, Pp b20 0), (9, Pp b184 0), (12, Ni j), (138, .bool false), (145, Ni xb.o.s.length), (149, .pointer (some p218))] <| Gp1 1 [40] 150 (.pointer (some (p218.add 6))) hS9 <| Dq 41 rfl (fun _ hS => (rd_load (by kernel_rfl) rfl (hS.zin _ _ (hp219 6 _ (by decide) (rowC_at opC_len hxa 6 (by decide) rfl))))) hS9 <| Dq 42 rfl (fun _ hS => (Ln (e := 3) rfl)) hS9 <| Gp1 2 [43,44] 154 (.bool (((xb.o.s.length : Nat) : Int) != ((xa.o.s.length : Nat) : Int))) hS9 <| gdn [(6, Pp b20 0), (9, Pp b184 0), (12, Ni j), (154, .bool (((xb.o.s.length : Nat) : Int) != ((xa.o.s.length : Nat) : Int)))] <| sw_next <| If rfl (fun hc39 => ?_) (fun hc39 => ?_)
 exfalso; have := hc39; omega
 refine sw_skip <| bkN <| sw_next <| sw_region <| Gw0 2 109 ((j : Int) + 1) ((j + 1 : Nat) : Int) <| Go1 1 12 (Ni (j + 1)) <| Dd <| rnd_end (g := (j)) (j + 1) (by kernel_rfl) ?_ ?_
 replace hH := (hH.sb (slk (slk sln))).n2
 · exact ⟨by omega, hH⟩
 · show l7.length - (j + 1) < l7.length - j; omega
 refine sw_exit <| thX <| thX <| bkH <| sw_next <| sw_sr <| Go1 1 4 (.bool true) <| Dn <| Rt1 rfl rfl ?_
 exact ⟨rfl, (hH.sb sln).fresh⟩
end Go.Proofs.YtllfpnbhjfadiaaGreatDoor
