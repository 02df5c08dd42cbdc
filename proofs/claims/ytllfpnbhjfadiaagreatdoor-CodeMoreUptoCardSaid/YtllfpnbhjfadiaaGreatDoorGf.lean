/- Gf: several texts in one. -/
import Derived.Test.YtllfpnbhjfadiaaGreatDoorGe
import Derived.Test.YtllfpnbhjfadiaaGreatDoorGa
import Derived.Lib.ItoaLen
import Derived.Lib.LaidPrint
import Derived.Lib.QuoteLoop
import Derived.Test.YtllfpnbhjfadiaaGreatDoorShelf2
/- Layer 8 (sound): the answers by names: what the program's functions answer. -/
set_option maxRecDepth 100000
set_option maxHeartbeats 2000000
set_option linter.unusedVariables false
set_option linter.unusedSimpArgs false
namespace Go.Proofs.YtllfpnbhjfadiaaGreatDoor
open Go.RowKit Go.SW
def lkO (e : Er5) (m : Nat) (T : Tab) : Own := .grp (if e.isNil then [.kmap m strK (vmap ouV T)] else [])

theorem ULooked_ct (rs : List Rv) (cap : Nat) (A : Option Addr) (c : Zone) (w : World) (hg0 : c ⟨0, 0, none⟩ = some errTy) (hc : c.le w.cell?) (hT : Row c (.slice A rs.length cap) 10 rs.length (rowC rvC rs)) (hok : RvsOk c rs) (hb : 2400 * Rv.sizes rs ≤ 70368744177664) :
    Fun Tryz.prog 63 [.agg #[.slice A rs.length cap]] w fun v w' => ∃ x1 x2 m fb, v = .tuple #[.agg #[x1, x2], erV (scopeF (rs.map Rv.rl)) fb] ∧ x1.oneCell' = true ∧ x2.oneCell' = true ∧ ((scopeF (rs.map Rv.rl)).isNil = true → x1 = .slice A rs.length cap ∧ x2 = .map (some m)) ∧ Fresh w w' [lkO (scopeF (rs.map Rv.rl)) m (lookT (rs.map Rv.rl)), erO (scopeF (rs.map Rv.rl)) fb] := by
 obtain ⟨Ax, cx, hx9, hx1, hx2⟩ := hT.form
 cases hx9
 have hml : maxLen ≤ 9223372036854775807 := by unfold maxLen; decide
 refine fun_of_sw Tryz.func63 rfl 39 rfl rfl ?_
 have hH := (Hp.start w).zsub hc
 refine sw_sr <| gl_st (Bx [.slice A rs.length cap] rfl hH ?_)
 clear hH; intro b1 w2 hH
 refine gl_st (Alc [.slice none 0 0, .map none] rfl hH ?_)
 clear hH; intro b3 w4 hH
 refine Go0 1 <| Dn <| sw_sr <| Gq rfl (La 0 [.slice A rs.length cap] hH rfl rfl) <| gl_st (Sc rfl rfl (NRulesX_ct rs cap A c _ hg0 hH.zin hT hok hb) ?_)
 rintro _ w7 ⟨v5, fb6, rfl, hF8⟩
 replace hH := hH.call hF8
 refine Go2 5 4 v5 5 (erV (scopeF (rs.map Rv.rl)) fb6) <| Dn <| sw_seq <| sw_sr <| Go1 1 14 (erV (scopeF (rs.map Rv.rl)) fb6) <| Gq rfl (rd_er_ne (by kernel_rfl) rfl) <| Dn <| If rfl (fun hc1 => ?_) (fun hc1 => ?_)
 have hs : (scopeF (rs.map Rv.rl)).isNil = false := hc1
 refine sw_sr <| Go2 2 16 (.agg #[.slice none 0 0, .map none]) 17 (erV (scopeF (rs.map Rv.rl)) fb6) <| gl_st (Ka 1 [.slice none 0 0, .map none] [.slice none 0 0, .map none] rfl hH rfl rfl ?_)
 clear hH; intro w9 hH
 refine Go1 1 3 (erV (scopeF (rs.map Rv.rl)) fb6) <| Dn <| sw_ret <| thR <| retC2 rfl (RS.cellA hH 1 (by kernel_rfl) rfl rfl (by kernel_rfl) [.slice none 0 0, .map none] rfl rfl) (RS.tmp rfl) ?_
 replace hH := hH.fr4
 replace hH := (hH.sb (slk sln)).n1
 have hH2 : Hp w w9 _ _ ([] ++ [erO (scopeF (rs.map Rv.rl)) fb6]) := hH
 exact ⟨_, _, 0, fb6, rfl, rfl, rfl, (fun h => by rw [hs] at h; cases h), by unfold lkO; rw [hs]; exact (Hp.close hH2).fresh⟩
 have hs : (scopeF (rs.map Rv.rl)).isNil = true := hc1
 have hol := outs_len hs
 obtain ⟨A10, c11, rfl, hl12, hm13⟩ := hH.row_form 2 rfl
 refine Sk <| sw_sr <| Gq rfl (La 0 [.slice A rs.length cap] hH rfl rfl) <| gl_st (st_makeMap rfl rfl rfl strK hH ?_)
 clear hH; intro m14 w15 hH
 refine Go1 1 20 (.agg #[.slice A rs.length cap, .map (some m14)]) <| gl_st (Alc [.slice none 0 0, .map none] rfl hH ?_)
 clear hH; intro b16 w17 hH
 refine gl_st (Ka 5 [.slice A rs.length cap, .map (some m14)] [.slice A rs.length cap, .map (some m14)] rfl hH rfl rfl ?_)
 clear hH; intro w18 hH
 refine Dn <| sw_seq <| sw_sr <| Go1 1 21 (.slice A10 ((outsF (rs.map Rv.rl)).length) c11) <| Gq rfl (Ln (e := 142) rfl) <| Go1 1 23 (.int .i64 0) <| Dn <| sw_block ?_
 replace hH := hH.fr2.fr2.fr3.fr5.fr6
 replace hH := (hH.sb (slk (slk (slk (slk (slk sln)))))).n5
 refine Lp (γ := Nat × Tab) hH (fun (i, U) => [(1, Pp b1 0), (2, Pp b3 0), (6, Pp b16 0), (21, .slice A10 ((outsF (rs.map Rv.rl)).length) c11), (22, Ni ((outsF (rs.map Rv.rl)).length)), (23, Ni i)]) (fun (i, U) w_ H_ => (lookT (rs.map Rv.rl) = lookF ((rs.drop i).map Rv.rl) ((outsF (rs.map Rv.rl)).drop i) U) ∧ (i ≤ rs.length) ∧ H_ [.blk b16 137 [.slice A rs.length cap, .map (some m14)], .kmap m14 strK (vmap ouV U), .row (.slice A10 ((outsF (rs.map Rv.rl)).length) c11) 142 3 ((outsF (rs.map Rv.rl)).length) (rowC ouC (outsF (rs.map Rv.rl))), .blk b1 24 [.slice A rs.length cap], .blk b3 137 [.slice none 0 0, .map none]]) (fun (i, U) => rs.length - i) (0, []) ?_ ?_
 · exact ⟨rfl, Nat.zero_le _, hH⟩
 clear hH
 rintro ⟨i, U⟩ w19 ⟨hm, hi, hH⟩
 refine swk [(1, Pp b1 0), (2, Pp b3 0), (6, Pp b16 0), (21, .slice A10 ((outsF (rs.map Rv.rl)).length) c11), (22, Ni ((outsF (rs.map Rv.rl)).length)), (23, Ni i)] <| sw_sr <| Go1 1 24 (.bool (decide ((i : Int) < (((outsF (rs.map Rv.rl)).length : Nat) : Int)))) <| Dn <| sw_seq <| If rfl (fun hc2 => ?_) (fun hc2 => ?_)
 refine Sk <| sw_seq <| sw_block ?_
 obtain ⟨r, hx⟩ : ∃ r, rs[i]? = some r := ⟨_, List.getElem?_eq_getElem (by omega)⟩
 obtain ⟨o, hox⟩ : ∃ o, (outsF (rs.map Rv.rl))[i]? = some o := ⟨_, List.getElem?_eq_getElem (by omega)⟩
 refine sw_sr ?_
 obtain ⟨b21, hb20, hi22⟩ := hH.row_idx 2 rfl i (by omega)
 refine Go1 1 25 (Ni i) <| Gq rfl (Ix (e := 142) 3 rfl rfl hi22) <| Gq rfl (rd_loadOA (q := 3) 2 (by kernel_rfl) hH rfl rfl hb20 (by kernel_rfl) [.bool o.z, .bool o.s, .bool o.f] rfl (rowC_allO ouC_len hox _ rfl)) <| gl_st (Alc [.bool false, .bool false, .bool false] rfl hH ?_)
 clear hH; intro b23 w24 hH
 refine Go1 1 7 (Ni i) <| gl_st (Ka 5 [.bool o.z, .bool o.s, .bool o.f] [.bool o.z, .bool o.s, .bool o.f] rfl hH rfl rfl ?_)
 clear hH; intro w25 hH
 refine Dn <| Dr hH (slk (slc (slk (slk (slk (slk sln)))))) ?_
 clear hH; intro w26 hH hS9
 refine Gp1 1 [0] 28 (Pp b16 1) hS9 <| Dq 1 rfl (fun _ hS => (Lk 0 hS rfl rfl rfl)) hS9 <| Gp1 1 [2] 30 (Pp b1 0) hS9 <| Dq 3 rfl (fun _ hS => (Lk 2 hS rfl rfl rfl)) hS9 ?_
 obtain ⟨p27, hi29, hp28⟩ := hT.idx i (by omega) (by decide)
 refine Gp1 1 [4] 32 (Ni i) hS9 <| Dq 5 rfl (fun _ hS => (Ix (e := 43) 10 rfl rfl hi29)) hS9 <| Gp1 1 [6] 34 (.pointer (some p27)) hS9 <| Dq 7 rfl (fun _ hS => (rd_load (by kernel_rfl) rfl (hS.zin _ _ (hp28 0 _ (by decide) (rowC_at rvC_len hx 0 (by decide) rfl))))) hS9 <| Dq 8 rfl (fun _ hS => (La 4 [.bool o.z, .bool o.s, .bool o.f] hS rfl rfl)) hS9 <| gds 9 (st_mapset (kt := 9) (e := 142) (v := .agg #[.bool o.z, .bool o.s, .bool o.f]) 1 rfl rfl rfl (by kernel_rfl) (by kernel_rfl) strK_key hH rfl rfl r.name rfl rfl ?_)
 clear hH; intro w30 hH
 replace hH := hH.cast (os' := [.blk b16 137 [.slice A rs.length cap, .map (some m14)], .kmap m14 strK (vmap ouV (putT U r.name o)), .row (.slice A10 ((outsF (rs.map Rv.rl)).length) c11) 142 3 ((outsF (rs.map Rv.rl)).length) (rowC ouC (outsF (rs.map Rv.rl))), .blk b1 24 [.slice A rs.length cap], .blk b3 137 [.slice none 0 0, .map none], .blk b23 142 [.bool o.z, .bool o.s, .bool o.f]]) (by rw [show Value.agg #[.bool o.z, .bool o.s, .bool o.f] = ouV o from rfl, kputK_vmap]; rfl)
 refine Nl (hH.sb (slk (slc (slk (slk (slk (slk sln))))))) fun hS9 => gdn [(1, Pp b1 0), (2, Pp b3 0), (6, Pp b16 0), (21, .slice A10 ((outsF (rs.map Rv.rl)).length) c11), (22, Ni ((outsF (rs.map Rv.rl)).length)), (23, Ni i)] <| bkN <| sw_next <| sw_region <| Gw0 1 37 ((i : Int) + 1) ((i + 1 : Nat) : Int) <| Go1 1 23 (Ni (i + 1)) <| Dd <| rnd_end (g := (i, U)) (i + 1, putT U r.name o) (by kernel_rfl) ?_ ?_
 replace hH := (hH.sb (slk (slk (slk (slk (slk sln)))))).n5
 · exact ⟨by rw [hm, lookF_at hx hox], by omega, hH⟩
 · show rs.length - (i + 1) < rs.length - i; omega
 refine sw_exit <| thX <| thX <| bkH <| sw_next <| sw_sr <| Gq rfl (La 0 [.slice A rs.length cap, .map (some m14)] hH rfl rfl) <| gl_st (Ka 4 [.slice A rs.length cap, .map (some m14)] [.slice A rs.length cap, .map (some m14)] rfl hH rfl rfl ?_)
 clear hH; intro w31 hH
 refine Go1 1 3 (.nilIface) <| Dn <| sw_ret <| retC2 rfl (RS.cellA hH 4 (by kernel_rfl) rfl rfl (by kernel_rfl) [.slice A rs.length cap, .map (some m14)] rfl rfl) (RS.tmp rfl) ?_
 replace hH := hH.fr2
 replace hH := (hH.sb (slk sln)).n1
 have h4 : lookT (rs.map Rv.rl) = U := by rw [hm, show rs.drop i = [] from List.drop_eq_nil_of_le (by omega), List.map_nil, lookF_end]
 have hH2 : Hp w w31 _ _ ([.kmap m14 strK (vmap ouV U)] ++ []) := hH
 have hH3 := er_nil 0 (Hp.close hH2)
 have hen : (scopeF (rs.map Rv.rl)) = .nil := er_nil_of hs
 exact ⟨_, _, m14, 0, by rw [hen]; rfl, rfl, rfl, (fun _ => ⟨rfl, rfl⟩), by unfold lkO; rw [hs, h4, hen]; exact hH3.fr2.fresh⟩
def SoC (t : Tv) : Prop := ∀ (A : Option Addr) (n cap m : Nat) (T : Tab) (c : Zone) (w : World), TvOk c t → okNd t.nd = true → c.le (off w (blksOf [.kmap m strK (vmap ouV T)])) → Mine w [.kmap m strK (vmap ouV T)] →
  Fun Tryz.prog 66 [.agg #[.slice A n cap, .map (some m)], .agg (tvC t).toArray] w fun v w' => v = ouV (outF T t.nd) ∧ Turn w w' [.kmap m strK (vmap ouV T)] [.kmap m strK (vmap ouV T)]
theorem so_at {x : Tv} (h : SoC x) (T : Tab) {o : Ou} (e : outF T x.nd = o) (A : Option Addr) (n cap m : Nat) (c : Zone) (w : World) (hok : TvOk c x) (hn : okNd x.nd = true) (hc : c.le (off w (blksOf [.kmap m strK (vmap ouV T)]))) (hM : Mine w [.kmap m strK (vmap ouV T)]) :
    Fun Tryz.prog 66 [.agg #[.slice A n cap, .map (some m)], .agg (tvC x).toArray] w fun v w' => v = ouV o ∧ Turn w w' [.kmap m strK (vmap ouV T)] [.kmap m strK (vmap ouV T)] := by
  subst e; exact h A n cap m T c w hok hn hc hM

theorem SoOut_step (t : Tv) (IH : ∀ x ∈ t.subs, SoC x) : SoC t := by
 intro A n cap m T c w hok hnd hc hM
 have hpa := okNd_parts hnd
 have hkk := okHd_kind hpa.1
 obtain ⟨Ax, cx, hx9, hx1, hx2⟩ := hok.row.form
 have hml : maxLen ≤ 9223372036854775807 := by unfold maxLen; decide
 refine fun_of_sw Tryz.func66 rfl 195 rfl rfl ?_
 have hH := (Hp.start_mine hM).zsub hc
 refine sw_sr <| gl_st (Bx [.slice A n cap, .map (some m)] rfl hH ?_)
 clear hH; intro b1 w2 hH
 refine gl_st (Bx [.int .i64 t.kind, .string (bs t.text), .int .u64 ((t.cl.a : Nat) : Int), .int .u64 ((t.cl.b : Nat) : Int), .int .u64 ((t.cl.c : Nat) : Int), .int .u64 ((t.cl.d : Nat) : Int), .slice t.A t.subs.length t.cap, .int .i64 t.pos] rfl hH ?_)
 clear hH; intro b3 w4 hH
 refine gl_st (Alc [.bool false, .bool false, .bool false] rfl hH ?_)
 clear hH; intro b5 w6 hH
 refine Dn <| sw_seq <| sw_sr <| Go1 1 13 (Pp b3 0) <| Gq rfl (Lk 2 hH rfl rfl rfl) <| Dn <| sw_block <| sw_sr <| Go1 2 15 (.bool ((t.kind : Int) == (5 : Int))) <| Dn <| sw_cond rfl rfl (fun hc1 => ?_) (fun hc1 => ?_)
 refine sw_cv 15 (.bool true) (by rw [hc1]) rfl ?_
 try simp only [beq_iff_eq] at hc1
 have hk5 : t.kind = 5 := hc1
 refine sw_sr <| Go1 1 17 (Pp b1 1) <| Gq rfl (Lk 1 hH rfl rfl rfl) <| Go1 1 19 (Pp b3 1) <| Gq rfl (Lk 2 hH rfl rfl rfl) <| Gq rfl (rd_mapget (kt := 9) (e := 142) (zv := .agg #[.bool false, .bool false, .bool false]) 0 (by kernel_rfl) (by kernel_rfl) strK_key (by kernel_rfl) hH rfl rfl t.text rfl) <| gl_cv 21 (.agg #[.bool (((getT T t.text).getD Ou.no).z), .bool (((getT T t.text).getD Ou.no).s), .bool (((getT T t.text).getD Ou.no).f)]) (kget_D ouV _ _ Ou.no) rfl <| gl_st (Ka 3 [.bool (((getT T t.text).getD Ou.no).z), .bool (((getT T t.text).getD Ou.no).s), .bool (((getT T t.text).getD Ou.no).f)] [.bool (((getT T t.text).getD Ou.no).z), .bool (((getT T t.text).getD Ou.no).s), .bool (((getT T t.text).getD Ou.no).f)] rfl hH rfl rfl ?_)
 clear hH; intro w7 hH
 refine Dn <| sw_ret <| bkR <| thR <| retC1 rfl (RS.cellA hH 3 (by kernel_rfl) rfl rfl (by kernel_rfl) [.bool (((getT T t.text).getD Ou.no).z), .bool (((getT T t.text).getD Ou.no).s), .bool (((getT T t.text).getD Ou.no).f)] rfl rfl) ?_
 replace hH := (hH.sb (slk sln)).n1
 exact ⟨by rw [outF_eq T t, if_neg (by omega), if_pos hk5]; first | rfl | (simp [ouV, ouC]), hH.turned⟩
 refine sw_cv 15 (.bool false) (by rw [hc1]) rfl ?_
 try simp only [beq_eq_false_iff_ne, ne_eq] at hc1
 have hk5 : ¬ t.kind = 5 := hc1
 refine sw_sr <| Go1 2 22 (.bool ((t.kind : Int) == (1 : Int))) <| Dn <| sw_cond rfl rfl (fun hc2 => ?_) (fun hc2 => ?_)
 refine sw_cv 22 (.bool true) (by rw [hc2]) rfl ?_
 try simp only [beq_iff_eq] at hc2
 have hk1 : t.kind = 1 := hc2
 refine sw_sr <| Go1 1 24 (.agg #[.bool true, .bool false, .bool false]) <| gl_st (Ka 3 [.bool true, .bool false, .bool false] [.bool true, .bool false, .bool false] rfl hH rfl rfl ?_)
 clear hH; intro w8 hH
 refine Dn <| sw_ret <| bkR <| thR <| retC1 rfl (RS.cellA hH 3 (by kernel_rfl) rfl rfl (by kernel_rfl) [.bool true, .bool false, .bool false] rfl rfl) ?_
 replace hH := (hH.sb (slk sln)).n1
 exact ⟨by rw [outF_eq T t, if_pos hk1]; first | rfl | (simp [ouV, ouC]), hH.turned⟩
 refine sw_cv 22 (.bool false) (by rw [hc2]) rfl ?_
 try simp only [beq_eq_false_iff_ne, ne_eq] at hc2
 have hk1 : ¬ t.kind = 1 := hc2
 refine sw_sr <| Go1 2 25 (.bool ((t.kind : Int) == (2 : Int))) <| Dn <| sw_cond rfl rfl (fun hc3 => ?_) (fun hc3 => ?_)
 refine sw_cv 25 (.bool true) (by rw [hc3]) rfl ?_
 try simp only [beq_iff_eq] at hc3
 have hk2 : t.kind = 2 := hc3
 refine sw_sr <| Go1 1 27 (Pp b3 1) <| Gq rfl (Lk 2 hH rfl rfl rfl) <| Gq rfl (rd_seql (by kernel_rfl) rfl rfl) <| Go1 1 30 (Pp b3 1) <| Gq rfl (Lk 2 hH rfl rfl rfl) <| Gq rfl (rd_sneq (by kernel_rfl) rfl rfl) <| Go1 1 33 (Pp b3 1) <| Gq rfl (Lk 2 hH rfl rfl rfl) <| Gq rfl (rd_sneq (by kernel_rfl) rfl rfl) <| Go1 1 36 (.agg #[.bool (t.text == []), .bool (!(t.text == [])), .bool (!(t.text == []))]) <| gl_st (Ka 3 [.bool (t.text == []), .bool (!(t.text == [])), .bool (!(t.text == []))] [.bool (t.text == []), .bool (!(t.text == [])), .bool (!(t.text == []))] rfl hH rfl rfl ?_)
 clear hH; intro w9 hH
 refine Dn <| sw_ret <| bkR <| thR <| retC1 rfl (RS.cellA hH 3 (by kernel_rfl) rfl rfl (by kernel_rfl) [.bool (t.text == []), .bool (!(t.text == [])), .bool (!(t.text == []))] rfl rfl) ?_
 replace hH := (hH.sb (slk sln)).n1
 exact ⟨by rw [outF_eq T t, if_neg (by omega), if_neg (by omega), if_pos hk2]; first | rfl | (simp [ouV, ouC]), hH.turned⟩
 refine sw_cv 25 (.bool false) (by rw [hc3]) rfl ?_
 try simp only [beq_eq_false_iff_ne, ne_eq] at hc3
 have hk2 : ¬ t.kind = 2 := hc3
 refine sw_seq <| sw_sr <| Go1 2 37 (.bool ((t.kind : Int) == (3 : Int))) <| Dn <| sw_cond rfl rfl (fun hc4 => ?_) (fun hc4 => ?_)
 refine sw_cv 37 (.bool true) (by rw [hc4]) rfl ?_
 try simp only [beq_iff_eq] at hc4
 have hk3 : t.kind = 3 := hc4
 refine Sk <| It <| sw_sr <| Go1 1 40 (Pp b3 0) <| Gq rfl (Lk 2 hH rfl rfl rfl) <| Go1 1 42 (.bool ((t.kind : Int) == (4 : Int))) <| gl_cv 42 (.bool false) (by rw [hk3]; rfl) rfl <| Go2 2 43 (.bool false) 44 (Pp b3 2) <| Gq rfl (La 2 [.int .u64 ((t.cl.a : Nat) : Int), .int .u64 ((t.cl.b : Nat) : Int), .int .u64 ((t.cl.c : Nat) : Int), .int .u64 ((t.cl.d : Nat) : Int)] hH rfl rfl) <| Go1 1 46 (.agg #[.int .u64 0, .int .u64 0, .int .u64 0, .int .u64 0]) <| Gq rfl (rd_arr4_neq (e := 36) (by kernel_rfl) (by kernel_rfl) (by kernel_rfl) (by kernel_rfl) (k0 := .u64) (by kernel_rfl) rfl rfl) <| gl_cv 47 (.bool (!t.cl.isZ)) (by rw [isZ_int]) rfl <| Go1 2 49 (.agg #[.bool false, .bool (!t.cl.isZ), .bool true]) <| gl_st (Ka 3 [.bool false, .bool (!t.cl.isZ), .bool true] [.bool false, .bool (!t.cl.isZ), .bool true] rfl hH rfl rfl ?_)
 clear hH; intro w10 hH
 refine Dn <| sw_ret <| bkR <| thR <| retC1 rfl (RS.cellA hH 3 (by kernel_rfl) rfl rfl (by kernel_rfl) [.bool false, .bool (!t.cl.isZ), .bool true] rfl rfl) ?_
 replace hH := (hH.sb (slk sln)).n1
 exact ⟨by rw [outF_eq T t, if_neg (by omega), if_neg (by omega), if_neg (by omega), if_pos hk3]; first | rfl | (simp [ouV, ouC]), hH.turned⟩
 refine sw_cv 37 (.bool false) (by rw [hc4]) rfl ?_
 try simp only [beq_eq_false_iff_ne, ne_eq] at hc4
 have hk3 : ¬ t.kind = 3 := hc4
 refine sw_region <| Go1 2 37 (.bool ((t.kind : Int) == (4 : Int))) <| Dd <| sw_next <| sw_cond rfl rfl (fun hc6 => ?_) (fun hc6 => ?_)
 refine sw_cv 37 (.bool true) (by rw [hc6]) rfl ?_
 try simp only [beq_iff_eq] at hc6
 have hk4 : t.kind = 4 := hc6
 refine sw_sr <| Go1 1 40 (Pp b3 0) <| Gq rfl (Lk 2 hH rfl rfl rfl) <| Go1 1 42 (.bool ((t.kind : Int) == (4 : Int))) <| gl_cv 42 (.bool true) (by rw [hk4]; rfl) rfl <| Go1 7 49 (.agg #[.bool false, .bool true, .bool true]) <| gl_st (Ka 3 [.bool false, .bool true, .bool true] [.bool false, .bool true, .bool true] rfl hH rfl rfl ?_)
 clear hH; intro w11 hH
 refine Dn <| sw_ret <| bkR <| thR <| retC1 rfl (RS.cellA hH 3 (by kernel_rfl) rfl rfl (by kernel_rfl) [.bool false, .bool true, .bool true] rfl rfl) ?_
 replace hH := (hH.sb (slk sln)).n1
 exact ⟨by rw [outF_eq T t, if_neg (by omega), if_neg (by omega), if_neg (by omega), if_neg (by omega), if_pos hk4]; first | rfl | (simp [ouV, ouC]), hH.turned⟩
 refine sw_cv 37 (.bool false) (by rw [hc6]) rfl ?_
 try simp only [beq_eq_false_iff_ne, ne_eq] at hc6
 have hk4 : ¬ t.kind = 4 := hc6
 refine sw_sr <| Go1 2 50 (.bool ((t.kind : Int) == (6 : Int))) <| Dn <| sw_cond rfl rfl (fun hc7 => ?_) (fun hc7 => ?_)
 refine sw_cv 50 (.bool true) (by rw [hc7]) rfl ?_
 try simp only [beq_iff_eq] at hc7
 have hk6 : t.kind = 6 := hc7
 refine sw_sr <| Go1 1 52 (Pp b5 0) <| gl_st (Ks 3 (.bool true) rfl hH rfl rfl ?_)
 clear hH; intro w12 hH
 refine Dn <| sw_seq <| sw_sr <| Go1 1 53 (Pp b3 6) <| Gq rfl (Lk 2 hH rfl rfl rfl) <| Gq rfl (Ln (e := 41) rfl) <| Go1 1 56 (.int .i64 0) <| Dn <| sw_block ?_
 replace hH := hH.fr2.fr4.fr3
 replace hH := (hH.sb (slk (slk (slk sln)))).n3
 refine Lp (γ := Nat × Bool × Bool × Bool) hH (fun (i, oz, oq, ofl) => [(2, Pp b1 0), (4, Pp b5 0), (54, .slice t.A t.subs.length t.cap), (55, Ni t.subs.length), (56, Ni i)]) (fun (i, oz, oq, ofl) w_ H_ => (outSeq T (Tv.nds t.subs) ⟨true, false, false⟩ = outSeq T (Tv.nds (t.subs.drop i)) ⟨oz, oq, ofl⟩) ∧ (i ≤ t.subs.length) ∧ H_ [.kmap m strK (vmap ouV T), .blk b5 142 [.bool oz, .bool oq, .bool ofl], .blk b1 137 [.slice A n cap, .map (some m)]]) (fun (i, oz, oq, ofl) => t.subs.length - i) (0, true, false, false) ?_ ?_
 · exact ⟨rfl, Nat.zero_le _, hH⟩
 clear hH
 rintro ⟨i, oz, oq, ofl⟩ w13 ⟨hm, hi, hH⟩
 refine swk [(2, Pp b1 0), (4, Pp b5 0), (54, .slice t.A t.subs.length t.cap), (55, Ni t.subs.length), (56, Ni i)] <| sw_sr <| Go1 1 57 (.bool (decide ((i : Int) < ((t.subs.length : Nat) : Int)))) <| Dn <| sw_seq <| sw_cond rfl rfl (fun hc8 => ?_) (fun hc8 => ?_)
 refine sw_cv 57 (.bool true) (by rw [hc8]) rfl ?_
 try simp only [decide_eq_true_eq] at hc8
 refine Sk <| sw_seq <| sw_block ?_
 obtain ⟨x, hx⟩ : ∃ x, t.subs[i]? = some x := ⟨_, List.getElem?_eq_getElem (by omega)⟩
 have hxm := List.mem_of_getElem? hx
 refine sw_sr ?_
 obtain ⟨p14, hi16, hp15⟩ := hok.row.idx i (by omega) (by decide)
 refine Gq rfl (Ix (e := 41) 8 rfl rfl hi16) <| Gq rfl (rd_loadZA (by kernel_rfl) hH hp15 rfl 0 rfl [.int .i64 x.kind, .string (bs x.text), .int .u64 ((x.cl.a : Nat) : Int), .int .u64 ((x.cl.b : Nat) : Int), .int .u64 ((x.cl.c : Nat) : Int), .int .u64 ((x.cl.d : Nat) : Int), .slice x.A x.subs.length x.cap, .int .i64 x.pos] (by kernel_rfl) (rowC_all tvC_len hx 0 _ rfl)) <| gl_st (Alc [.int .i64 0, .string (bs []), .int .u64 0, .int .u64 0, .int .u64 0, .int .u64 0, .slice none 0 0, .int .i64 0] rfl hH ?_)
 clear hH; intro b17 w18 hH
 refine gl_st (Ka 3 [.int .i64 x.kind, .string (bs x.text), .int .u64 ((x.cl.a : Nat) : Int), .int .u64 ((x.cl.b : Nat) : Int), .int .u64 ((x.cl.c : Nat) : Int), .int .u64 ((x.cl.d : Nat) : Int), .slice x.A x.subs.length x.cap, .int .i64 x.pos] [.int .i64 x.kind, .string (bs x.text), .int .u64 ((x.cl.a : Nat) : Int), .int .u64 ((x.cl.b : Nat) : Int), .int .u64 ((x.cl.c : Nat) : Int), .int .u64 ((x.cl.d : Nat) : Int), .slice x.A x.subs.length x.cap, .int .i64 x.pos] rfl hH rfl rfl ?_)
 clear hH; intro w19 hH
 refine Dn ?_
 obtain ⟨⟨xz, xq, xfl⟩, hxo⟩ : ∃ o, outF T x.nd = o := ⟨_, rfl⟩
 refine sw_sr <| Gq rfl (La 2 [.slice A n cap, .map (some m)] hH rfl rfl) <| Gq rfl (La 3 [.int .i64 x.kind, .string (bs x.text), .int .u64 ((x.cl.a : Nat) : Int), .int .u64 ((x.cl.b : Nat) : Int), .int .u64 ((x.cl.c : Nat) : Int), .int .u64 ((x.cl.d : Nat) : Int), .slice x.A x.subs.length x.cap, .int .i64 x.pos] hH rfl rfl) ?_
 replace hH : Hp w w19 _ _ ([_] ++ [_, _, _]) := hH
 refine gl_st (Sc rfl rfl (so_at (IH x hxm) T hxo A n cap m c _ (hok.subs x hxm) (hpa.2 x hxm) hH.zoff hH.mine) ?_)
 rintro _ w20 ⟨rfl, hF21⟩
 replace hH := hH.turns hF21
 replace hH := hH.n4
 refine gl_st (Alc [.bool false, .bool false, .bool false] rfl hH ?_)
 clear hH; intro b22 w23 hH
 refine gl_st (Ka 4 [.bool xz, .bool xq, .bool xfl] [.bool xz, .bool xq, .bool xfl] rfl hH rfl rfl ?_)
 clear hH; intro w24 hH
 refine Dn <| sw_sr <| Go1 1 63 (Pp b5 0) <| Gq rfl (Lk 0 hH rfl rfl rfl) <| Go1 1 65 (.bool oz) <| gl_split 65 (b := oz) rfl (fun hg9 => ?_) (fun hg9 => ?_)
 obtain rfl : oz = true := by simpa using hg9
 refine Go1 4 8 (.bool true) <| Dn <| sw_region <| Go1 1 69 (Pp b5 0) <| Gq rfl (Lk 0 hH rfl rfl rfl) <| Go2 2 71 (.bool true) 72 (Pp b22 0) <| Gq rfl (Lk 4 hH rfl rfl rfl) <| Go2 2 74 (.bool xz) 75 (Pp b5 1) <| Gq rfl (Lk 0 hH rfl rfl rfl) <| Go1 1 77 (.bool oq) <| gl_split 77 (b := oq) rfl (fun hg10 => ?_) (fun hg10 => ?_)
 obtain rfl : oq = true := by simpa using hg10
 refine Go1 1 78 (Pp b22 0) <| Gq rfl (Lk 4 hH rfl rfl rfl) <| glo 1 [(2, Pp b1 0), (4, Pp b5 0), (7, Pp b22 0), (8, .bool true), (54, .slice t.A t.subs.length t.cap), (55, Ni t.subs.length), (56, Ni i), (74, .bool xz), (77, .bool true), (80, .bool xz)] <| gl_split 80 (b := xz) rfl (fun hg11 => ?_) (fun hg11 => ?_)
 obtain rfl : xz = true := by simpa using hg11
 refine Go2 12 91 (.bool true) 92 (Pp b5 2) <| Gq rfl (Lk 0 hH rfl rfl rfl) <| Go1 1 94 (.bool ofl) <| gl_split 94 (b := ofl) rfl (fun hg12 => ?_) (fun hg12 => ?_)
 obtain rfl : ofl = true := by simpa using hg12
 refine Go1 7 101 (.agg #[.bool true, .bool true, .bool true]) <| gl_st (Ka 0 [.bool true, .bool true, .bool true] [.bool true, .bool true, .bool true] rfl hH rfl rfl ?_)
 clear hH; intro w25 hH
 refine Dd <| bkN <| sw_next <| sw_region <| Gw0 1 102 ((i : Int) + 1) ((i + 1 : Nat) : Int) <| Go1 1 56 (Ni (i + 1)) <| Dd <| rnd_end (g := (i, true, true, true)) (i + 1, true, true, true) (by kernel_rfl) ?_ ?_
 replace hH := hH.fr2.fr2.fr4
 replace hH := (hH.sb (slk (slk (slk sln)))).n3
 · exact ⟨by rw [hm, outSeq_at hx, hxo]; first | rfl | (simp [behindF, insteadF]), by omega, hH⟩
 · show t.subs.length - (i + 1) < t.subs.length - i; omega
 obtain rfl : ofl = false := by simpa using hg12
 refine Go2 3 96 (.bool true) 97 (Pp b22 2) <| Gq rfl (Lk 4 hH rfl rfl rfl) <| Go1 3 101 (.agg #[.bool true, .bool true, .bool xfl]) <| gl_st (Ka 0 [.bool true, .bool true, .bool xfl] [.bool true, .bool true, .bool xfl] rfl hH rfl rfl ?_)
 clear hH; intro w26 hH
 refine Dd <| bkN <| sw_next <| sw_region <| Gw0 1 102 ((i : Int) + 1) ((i + 1 : Nat) : Int) <| Go1 1 56 (Ni (i + 1)) <| Dd <| rnd_end (g := (i, true, true, false)) (i + 1, true, true, xfl) (by kernel_rfl) ?_ ?_
 replace hH := hH.fr2.fr2.fr4
 replace hH := (hH.sb (slk (slk (slk sln)))).n3
 · exact ⟨by rw [hm, outSeq_at hx, hxo]; first | rfl | (simp [behindF, insteadF]), by omega, hH⟩
 · show t.subs.length - (i + 1) < t.subs.length - i; omega
 obtain rfl : xz = false := by simpa using hg11
 refine Go1 1 81 (Pp b22 1) <| Gq rfl (Lk 4 hH rfl rfl rfl) <| Go1 3 85 (.bool xq) <| gl_split 85 (b := xq) rfl (fun hg13 => ?_) (fun hg13 => ?_)
 obtain rfl : xq = true := by simpa using hg13
 refine Go2 7 91 (.bool true) 92 (Pp b5 2) <| Gq rfl (Lk 0 hH rfl rfl rfl) <| Go1 1 94 (.bool ofl) <| gl_split 94 (b := ofl) rfl (fun hg14 => ?_) (fun hg14 => ?_)
 obtain rfl : ofl = true := by simpa using hg14
 refine Go1 7 101 (.agg #[.bool false, .bool true, .bool true]) <| gl_st (Ka 0 [.bool false, .bool true, .bool true] [.bool false, .bool true, .bool true] rfl hH rfl rfl ?_)
 clear hH; intro w27 hH
 refine Dd <| bkN <| sw_next <| sw_region <| Gw0 1 102 ((i : Int) + 1) ((i + 1 : Nat) : Int) <| Go1 1 56 (Ni (i + 1)) <| Dd <| rnd_end (g := (i, true, true, true)) (i + 1, false, true, true) (by kernel_rfl) ?_ ?_
 replace hH := hH.fr2.fr2.fr4
 replace hH := (hH.sb (slk (slk (slk sln)))).n3
 · exact ⟨by rw [hm, outSeq_at hx, hxo]; first | rfl | (simp [behindF, insteadF]), by omega, hH⟩
 · show t.subs.length - (i + 1) < t.subs.length - i; omega
 obtain rfl : ofl = false := by simpa using hg14
 refine Go2 3 96 (.bool true) 97 (Pp b22 2) <| Gq rfl (Lk 4 hH rfl rfl rfl) <| Go1 3 101 (.agg #[.bool false, .bool true, .bool xfl]) <| gl_st (Ka 0 [.bool false, .bool true, .bool xfl] [.bool false, .bool true, .bool xfl] rfl hH rfl rfl ?_)
 clear hH; intro w28 hH
 refine Dd <| bkN <| sw_next <| sw_region <| Gw0 1 102 ((i : Int) + 1) ((i + 1 : Nat) : Int) <| Go1 1 56 (Ni (i + 1)) <| Dd <| rnd_end (g := (i, true, true, false)) (i + 1, false, true, xfl) (by kernel_rfl) ?_ ?_
 replace hH := hH.fr2.fr2.fr4
 replace hH := (hH.sb (slk (slk (slk sln)))).n3
 · exact ⟨by rw [hm, outSeq_at hx, hxo]; first | rfl | (simp [behindF, insteadF]), by omega, hH⟩
 · show t.subs.length - (i + 1) < t.subs.length - i; omega
 obtain rfl : xq = false := by simpa using hg13
 refine Go2 3 87 (.bool true) 88 (Pp b22 1) <| Gq rfl (Lk 4 hH rfl rfl rfl) <| Go2 3 91 (.bool false) 92 (Pp b5 2) <| Gq rfl (Lk 0 hH rfl rfl rfl) <| Go1 1 94 (.bool ofl) <| gl_split 94 (b := ofl) rfl (fun hg15 => ?_) (fun hg15 => ?_)
 obtain rfl : ofl = true := by simpa using hg15
 refine Go1 7 101 (.agg #[.bool false, .bool false, .bool true]) <| gl_st (Ka 0 [.bool false, .bool false, .bool true] [.bool false, .bool false, .bool true] rfl hH rfl rfl ?_)
 clear hH; intro w29 hH
 refine Dd <| bkN <| sw_next <| sw_region <| Gw0 1 102 ((i : Int) + 1) ((i + 1 : Nat) : Int) <| Go1 1 56 (Ni (i + 1)) <| Dd <| rnd_end (g := (i, true, true, true)) (i + 1, false, false, true) (by kernel_rfl) ?_ ?_
 replace hH := hH.fr2.fr2.fr4
 replace hH := (hH.sb (slk (slk (slk sln)))).n3
 · exact ⟨by rw [hm, outSeq_at hx, hxo]; first | rfl | (simp [behindF, insteadF]), by omega, hH⟩
 · show t.subs.length - (i + 1) < t.subs.length - i; omega
 obtain rfl : ofl = false := by simpa using hg15
 refine Go2 3 96 (.bool true) 97 (Pp b22 2) <| Gq rfl (Lk 4 hH rfl rfl rfl) <| Go1 3 101 (.agg #[.bool false, .bool false, .bool xfl]) <| gl_st (Ka 0 [.bool false, .bool false, .bool xfl] [.bool false, .bool false, .bool xfl] rfl hH rfl rfl ?_)
 clear hH; intro w30 hH
 refine Dd <| bkN <| sw_next <| sw_region <| Gw0 1 102 ((i : Int) + 1) ((i + 1 : Nat) : Int) <| Go1 1 56 (Ni (i + 1)) <| Dd <| rnd_end (g := (i, true, true, false)) (i + 1, false, false, xfl) (by kernel_rfl) ?_ ?_
 replace hH := hH.fr2.fr2.fr4
 replace hH := (hH.sb (slk (slk (slk sln)))).n3
 · exact ⟨by rw [hm, outSeq_at hx, hxo]; first | rfl | (simp [behindF, insteadF]), by omega, hH⟩
 · show t.subs.length - (i + 1) < t.subs.length - i; omega
 obtain rfl : oq = false := by simpa using hg10
 refine glo 11 [(2, Pp b1 0), (4, Pp b5 0), (7, Pp b22 0), (8, .bool true), (54, .slice t.A t.subs.length t.cap), (55, Ni t.subs.length), (56, Ni i), (74, .bool xz), (85, .bool false), (87, .bool true), (88, Pp b22 1)] <| Gq rfl (Lk 4 hH rfl rfl rfl) <| Go2 3 91 (.bool xq) 92 (Pp b5 2) <| Gq rfl (Lk 0 hH rfl rfl rfl) <| Go1 1 94 (.bool ofl) <| gl_split 94 (b := ofl) rfl (fun hg16 => ?_) (fun hg16 => ?_)
 obtain rfl : ofl = true := by simpa using hg16
 refine Go1 7 101 (.agg #[.bool xz, .bool xq, .bool true]) <| gl_st (Ka 0 [.bool xz, .bool xq, .bool true] [.bool xz, .bool xq, .bool true] rfl hH rfl rfl ?_)
 clear hH; intro w31 hH
 refine Dd <| bkN <| sw_next <| sw_region <| Gw0 1 102 ((i : Int) + 1) ((i + 1 : Nat) : Int) <| Go1 1 56 (Ni (i + 1)) <| Dd <| rnd_end (g := (i, true, false, true)) (i + 1, xz, xq, true) (by kernel_rfl) ?_ ?_
 replace hH := hH.fr2.fr2.fr4
 replace hH := (hH.sb (slk (slk (slk sln)))).n3
 · exact ⟨by rw [hm, outSeq_at hx, hxo]; first | rfl | (simp [behindF, insteadF]), by omega, hH⟩
 · show t.subs.length - (i + 1) < t.subs.length - i; omega
 obtain rfl : ofl = false := by simpa using hg16
 refine Go2 3 96 (.bool true) 97 (Pp b22 2) <| Gq rfl (Lk 4 hH rfl rfl rfl) <| Go1 3 101 (.agg #[.bool xz, .bool xq, .bool xfl]) <| gl_st (Ka 0 [.bool xz, .bool xq, .bool xfl] [.bool xz, .bool xq, .bool xfl] rfl hH rfl rfl ?_)
 clear hH; intro w32 hH
 refine Dd <| bkN <| sw_next <| sw_region <| Gw0 1 102 ((i : Int) + 1) ((i + 1 : Nat) : Int) <| Go1 1 56 (Ni (i + 1)) <| Dd <| rnd_end (g := (i, true, false, false)) (i + 1, xz, xq, xfl) (by kernel_rfl) ?_ ?_
 replace hH := hH.fr2.fr2.fr4
 replace hH := (hH.sb (slk (slk (slk sln)))).n3
 · exact ⟨by rw [hm, outSeq_at hx, hxo]; first | rfl | (simp [behindF, insteadF]), by omega, hH⟩
 · show t.subs.length - (i + 1) < t.subs.length - i; omega
 obtain rfl : oz = false := by simpa using hg9
 refine Go1 1 66 (Pp b5 1) <| Gq rfl (Lk 0 hH rfl rfl rfl) <| Go1 2 8 (.bool oq) <| Dn <| sw_region <| Go1 1 69 (Pp b5 0) <| Gq rfl (Lk 0 hH rfl rfl rfl) <| Go2 5 74 (.bool false) 75 (Pp b5 1) <| Gq rfl (Lk 0 hH rfl rfl rfl) <| Go1 1 77 (.bool oq) <| gl_split 77 (b := oq) rfl (fun hg17 => ?_) (fun hg17 => ?_)
 obtain rfl : oq = true := by simpa using hg17
 refine Go1 1 78 (Pp b22 0) <| Gq rfl (Lk 4 hH rfl rfl rfl) <| Go1 1 80 (.bool xz) <| gl_split 80 (b := xz) rfl (fun hg18 => ?_) (fun hg18 => ?_)
 obtain rfl : xz = true := by simpa using hg18
 refine glo 12 [(2, Pp b1 0), (4, Pp b5 0), (7, Pp b22 0), (8, .bool true), (54, .slice t.A t.subs.length t.cap), (55, Ni t.subs.length), (56, Ni i), (74, .bool false), (91, .bool true), (92, Pp b5 2)] <| Gq rfl (Lk 0 hH rfl rfl rfl) <| Go1 1 94 (.bool ofl) <| gl_split 94 (b := ofl) rfl (fun hg19 => ?_) (fun hg19 => ?_)
 obtain rfl : ofl = true := by simpa using hg19
 refine Go1 7 101 (.agg #[.bool false, .bool true, .bool true]) <| gl_st (Ka 0 [.bool false, .bool true, .bool true] [.bool false, .bool true, .bool true] rfl hH rfl rfl ?_)
 clear hH; intro w33 hH
 refine Dd <| bkN <| sw_next <| sw_region <| Gw0 1 102 ((i : Int) + 1) ((i + 1 : Nat) : Int) <| Go1 1 56 (Ni (i + 1)) <| Dd <| rnd_end (g := (i, false, true, true)) (i + 1, false, true, true) (by kernel_rfl) ?_ ?_
 replace hH := hH.fr2.fr2.fr4
 replace hH := (hH.sb (slk (slk (slk sln)))).n3
 · exact ⟨by rw [hm, outSeq_at hx, hxo]; first | rfl | (simp [behindF, insteadF]), by omega, hH⟩
 · show t.subs.length - (i + 1) < t.subs.length - i; omega
 obtain rfl : ofl = false := by simpa using hg19
 refine Go2 3 96 (.bool true) 97 (Pp b22 2) <| Gq rfl (Lk 4 hH rfl rfl rfl) <| Go1 3 101 (.agg #[.bool false, .bool true, .bool xfl]) <| gl_st (Ka 0 [.bool false, .bool true, .bool xfl] [.bool false, .bool true, .bool xfl] rfl hH rfl rfl ?_)
 clear hH; intro w34 hH
 refine Dd <| bkN <| sw_next <| sw_region <| Gw0 1 102 ((i : Int) + 1) ((i + 1 : Nat) : Int) <| Go1 1 56 (Ni (i + 1)) <| Dd <| rnd_end (g := (i, false, true, false)) (i + 1, false, true, xfl) (by kernel_rfl) ?_ ?_
 replace hH := hH.fr2.fr2.fr4
 replace hH := (hH.sb (slk (slk (slk sln)))).n3
 · exact ⟨by rw [hm, outSeq_at hx, hxo]; first | rfl | (simp [behindF, insteadF]), by omega, hH⟩
 · show t.subs.length - (i + 1) < t.subs.length - i; omega
 obtain rfl : xz = false := by simpa using hg18
 refine glo 1 [(2, Pp b1 0), (4, Pp b5 0), (7, Pp b22 0), (8, .bool true), (54, .slice t.A t.subs.length t.cap), (55, Ni t.subs.length), (56, Ni i), (74, .bool false), (77, .bool true), (80, .bool false), (81, Pp b22 1)] <| Gq rfl (Lk 4 hH rfl rfl rfl) <| Go1 3 85 (.bool xq) <| gl_split 85 (b := xq) rfl (fun hg20 => ?_) (fun hg20 => ?_)
 obtain rfl : xq = true := by simpa using hg20
 refine Go2 7 91 (.bool true) 92 (Pp b5 2) <| Gq rfl (Lk 0 hH rfl rfl rfl) <| Go1 1 94 (.bool ofl) <| gl_split 94 (b := ofl) rfl (fun hg21 => ?_) (fun hg21 => ?_)
 obtain rfl : ofl = true := by simpa using hg21
 refine Go1 7 101 (.agg #[.bool false, .bool true, .bool true]) <| gl_st (Ka 0 [.bool false, .bool true, .bool true] [.bool false, .bool true, .bool true] rfl hH rfl rfl ?_)
 clear hH; intro w35 hH
 refine Dd <| bkN <| sw_next <| sw_region <| Gw0 1 102 ((i : Int) + 1) ((i + 1 : Nat) : Int) <| Go1 1 56 (Ni (i + 1)) <| Dd <| rnd_end (g := (i, false, true, true)) (i + 1, false, true, true) (by kernel_rfl) ?_ ?_
 replace hH := hH.fr2.fr2.fr4
 replace hH := (hH.sb (slk (slk (slk sln)))).n3
 · exact ⟨by rw [hm, outSeq_at hx, hxo]; first | rfl | (simp [behindF, insteadF]), by omega, hH⟩
 · show t.subs.length - (i + 1) < t.subs.length - i; omega
 obtain rfl : ofl = false := by simpa using hg21
 refine Go2 3 96 (.bool true) 97 (Pp b22 2) <| Gq rfl (Lk 4 hH rfl rfl rfl) <| Go1 3 101 (.agg #[.bool false, .bool true, .bool xfl]) <| gl_st (Ka 0 [.bool false, .bool true, .bool xfl] [.bool false, .bool true, .bool xfl] rfl hH rfl rfl ?_)
 clear hH; intro w36 hH
 refine Dd <| bkN <| sw_next <| sw_region <| Gw0 1 102 ((i : Int) + 1) ((i + 1 : Nat) : Int) <| Go1 1 56 (Ni (i + 1)) <| Dd <| rnd_end (g := (i, false, true, false)) (i + 1, false, true, xfl) (by kernel_rfl) ?_ ?_
 replace hH := hH.fr2.fr2.fr4
 replace hH := (hH.sb (slk (slk (slk sln)))).n3
 · exact ⟨by rw [hm, outSeq_at hx, hxo]; first | rfl | (simp [behindF, insteadF]), by omega, hH⟩
 · show t.subs.length - (i + 1) < t.subs.length - i; omega
 obtain rfl : xq = false := by simpa using hg20
 refine Go2 3 87 (.bool true) 88 (Pp b22 1) <| Gq rfl (Lk 4 hH rfl rfl rfl) <| Go2 3 91 (.bool false) 92 (Pp b5 2) <| Gq rfl (Lk 0 hH rfl rfl rfl) <| Go1 1 94 (.bool ofl) <| gl_split 94 (b := ofl) rfl (fun hg22 => ?_) (fun hg22 => ?_)
 obtain rfl : ofl = true := by simpa using hg22
 refine Go1 7 101 (.agg #[.bool false, .bool false, .bool true]) <| gl_st (Ka 0 [.bool false, .bool false, .bool true] [.bool false, .bool false, .bool true] rfl hH rfl rfl ?_)
 clear hH; intro w37 hH
 refine Dd <| bkN <| sw_next <| sw_region <| Gw0 1 102 ((i : Int) + 1) ((i + 1 : Nat) : Int) <| Go1 1 56 (Ni (i + 1)) <| Dd <| rnd_end (g := (i, false, true, true)) (i + 1, false, false, true) (by kernel_rfl) ?_ ?_
 replace hH := hH.fr2.fr2.fr4
 replace hH := (hH.sb (slk (slk (slk sln)))).n3
 · exact ⟨by rw [hm, outSeq_at hx, hxo]; first | rfl | (simp [behindF, insteadF]), by omega, hH⟩
 · show t.subs.length - (i + 1) < t.subs.length - i; omega
 obtain rfl : ofl = false := by simpa using hg22
 refine Go2 3 96 (.bool true) 97 (Pp b22 2) <| Gq rfl (Lk 4 hH rfl rfl rfl) <| Go1 3 101 (.agg #[.bool false, .bool false, .bool xfl]) <| gl_st (Ka 0 [.bool false, .bool false, .bool xfl] [.bool false, .bool false, .bool xfl] rfl hH rfl rfl ?_)
 clear hH; intro w38 hH
 refine Dd <| bkN <| sw_next <| sw_region <| Gw0 1 102 ((i : Int) + 1) ((i + 1 : Nat) : Int) <| Go1 1 56 (Ni (i + 1)) <| Dd <| rnd_end (g := (i, false, true, false)) (i + 1, false, false, xfl) (by kernel_rfl) ?_ ?_
 replace hH := hH.fr2.fr2.fr4
 replace hH := (hH.sb (slk (slk (slk sln)))).n3
 · exact ⟨by rw [hm, outSeq_at hx, hxo]; first | rfl | (simp [behindF, insteadF]), by omega, hH⟩
 · show t.subs.length - (i + 1) < t.subs.length - i; omega
 obtain rfl : oq = false := by simpa using hg17
 refine Go2 15 91 (.bool false) 92 (Pp b5 2) <| Gq rfl (Lk 0 hH rfl rfl rfl) <| glo 1 [(2, Pp b1 0), (4, Pp b5 0), (7, Pp b22 0), (8, .bool false), (54, .slice t.A t.subs.length t.cap), (55, Ni t.subs.length), (56, Ni i), (74, .bool false), (91, .bool false), (94, .bool ofl)] <| gl_split 94 (b := ofl) rfl (fun hg23 => ?_) (fun hg23 => ?_)
 obtain rfl : ofl = true := by simpa using hg23
 refine Go1 7 101 (.agg #[.bool false, .bool false, .bool true]) <| gl_st (Ka 0 [.bool false, .bool false, .bool true] [.bool false, .bool false, .bool true] rfl hH rfl rfl ?_)
 clear hH; intro w39 hH
 refine Dd <| bkN <| sw_next <| sw_region <| Gw0 1 102 ((i : Int) + 1) ((i + 1 : Nat) : Int) <| Go1 1 56 (Ni (i + 1)) <| Dd <| rnd_end (g := (i, false, false, true)) (i + 1, false, false, true) (by kernel_rfl) ?_ ?_
 replace hH := hH.fr2.fr2.fr4
 replace hH := (hH.sb (slk (slk (slk sln)))).n3
 · exact ⟨by rw [hm, outSeq_at hx, hxo]; first | rfl | (simp [behindF, insteadF]), by omega, hH⟩
 · show t.subs.length - (i + 1) < t.subs.length - i; omega
 obtain rfl : ofl = false := by simpa using hg23
 refine Go1 7 101 (.agg #[.bool false, .bool false, .bool false]) <| gl_st (Ka 0 [.bool false, .bool false, .bool false] [.bool false, .bool false, .bool false] rfl hH rfl rfl ?_)
 clear hH; intro w40 hH
 refine Dd <| bkN <| sw_next <| sw_region <| Gw0 1 102 ((i : Int) + 1) ((i + 1 : Nat) : Int) <| Go1 1 56 (Ni (i + 1)) <| Dd <| rnd_end (g := (i, false, false, false)) (i + 1, false, false, false) (by kernel_rfl) ?_ ?_
 replace hH := hH.fr2.fr2.fr4
 replace hH := (hH.sb (slk (slk (slk sln)))).n3
 · exact ⟨by rw [hm, outSeq_at hx, hxo]; first | rfl | (simp [behindF, insteadF]), by omega, hH⟩
 · show t.subs.length - (i + 1) < t.subs.length - i; omega
 refine sw_cv 57 (.bool false) (by rw [hc8]) rfl ?_
 try simp only [decide_eq_false_iff_not, Int.not_lt, Int.not_le] at hc8
 refine sw_exit <| thX <| thX <| bkH <| sw_next <| sw_sr <| Gq rfl (La 1 [.bool oz, .bool oq, .bool ofl] hH rfl rfl) <| gl_st (Ka 1 [.bool oz, .bool oq, .bool ofl] [.bool oz, .bool oq, .bool ofl] rfl hH rfl rfl ?_)
 clear hH; intro w41 hH
 refine Dn <| sw_ret <| bkR <| thR <| retC1 rfl (RS.cellA hH 1 (by kernel_rfl) rfl rfl (by kernel_rfl) [.bool oz, .bool oq, .bool ofl] rfl rfl) ?_
 replace hH := (hH.sb (slk sln)).n1
 exact ⟨by rw [outF_eq T t, if_neg (by omega), if_neg (by omega), if_neg (by omega), if_neg (by omega), if_neg (by omega), if_pos hk6, hm, List.drop_eq_nil_of_le (by omega)]; rfl, hH.turned⟩
 refine sw_cv 50 (.bool false) (by rw [hc7]) rfl ?_
 try simp only [beq_eq_false_iff_ne, ne_eq] at hc7
 have hk6 : ¬ t.kind = 6 := hc7
 refine sw_sr <| Go1 2 104 (.bool ((t.kind : Int) == (7 : Int))) <| Dn <| sw_cond rfl rfl (fun hc24 => ?_) (fun hc24 => ?_)
 refine sw_cv 104 (.bool true) (by rw [hc24]) rfl ?_
 try simp only [beq_iff_eq] at hc24
 have hk7 : t.kind = 7 := hc24
 refine sw_sr <| Go1 1 106 (Pp b5 2) <| gl_st (Ks 3 (.bool true) rfl hH rfl rfl ?_)
 clear hH; intro w42 hH
 refine Dn <| sw_seq <| sw_sr <| Go1 1 107 (Pp b3 6) <| Gq rfl (Lk 2 hH rfl rfl rfl) <| Gq rfl (Ln (e := 41) rfl) <| Go1 1 110 (.int .i64 0) <| Dn <| sw_block ?_
 replace hH := hH.fr2.fr4.fr3
 replace hH := (hH.sb (slk (slk (slk sln)))).n3
 refine Lp (γ := Nat × Bool × Bool × Bool) hH (fun (i, oz, oq, ofl) => [(2, Pp b1 0), (4, Pp b5 0), (108, .slice t.A t.subs.length t.cap), (109, Ni t.subs.length), (110, Ni i)]) (fun (i, oz, oq, ofl) w_ H_ => (outAlt T (Tv.nds t.subs) ⟨false, false, true⟩ = outAlt T (Tv.nds (t.subs.drop i)) ⟨oz, oq, ofl⟩) ∧ (i ≤ t.subs.length) ∧ H_ [.kmap m strK (vmap ouV T), .blk b5 142 [.bool oz, .bool oq, .bool ofl], .blk b1 137 [.slice A n cap, .map (some m)]]) (fun (i, oz, oq, ofl) => t.subs.length - i) (0, false, false, true) ?_ ?_
 · exact ⟨rfl, Nat.zero_le _, hH⟩
 clear hH
 rintro ⟨i, oz, oq, ofl⟩ w43 ⟨hm, hi, hH⟩
 refine swk [(2, Pp b1 0), (4, Pp b5 0), (108, .slice t.A t.subs.length t.cap), (109, Ni t.subs.length), (110, Ni i)] <| sw_sr <| Go1 1 111 (.bool (decide ((i : Int) < ((t.subs.length : Nat) : Int)))) <| Dn <| sw_seq <| sw_cond rfl rfl (fun hc25 => ?_) (fun hc25 => ?_)
 refine sw_cv 111 (.bool true) (by rw [hc25]) rfl ?_
 try simp only [decide_eq_true_eq] at hc25
 refine Sk <| sw_seq <| sw_block ?_
 obtain ⟨x, hx⟩ : ∃ x, t.subs[i]? = some x := ⟨_, List.getElem?_eq_getElem (by omega)⟩
 have hxm := List.mem_of_getElem? hx
 refine sw_sr ?_
 obtain ⟨p44, hi46, hp45⟩ := hok.row.idx i (by omega) (by decide)
 refine Gq rfl (Ix (e := 41) 8 rfl rfl hi46) <| Gq rfl (rd_loadZA (by kernel_rfl) hH hp45 rfl 0 rfl [.int .i64 x.kind, .string (bs x.text), .int .u64 ((x.cl.a : Nat) : Int), .int .u64 ((x.cl.b : Nat) : Int), .int .u64 ((x.cl.c : Nat) : Int), .int .u64 ((x.cl.d : Nat) : Int), .slice x.A x.subs.length x.cap, .int .i64 x.pos] (by kernel_rfl) (rowC_all tvC_len hx 0 _ rfl)) <| gl_st (Alc [.int .i64 0, .string (bs []), .int .u64 0, .int .u64 0, .int .u64 0, .int .u64 0, .slice none 0 0, .int .i64 0] rfl hH ?_)
 clear hH; intro b47 w48 hH
 refine gl_st (Ka 3 [.int .i64 x.kind, .string (bs x.text), .int .u64 ((x.cl.a : Nat) : Int), .int .u64 ((x.cl.b : Nat) : Int), .int .u64 ((x.cl.c : Nat) : Int), .int .u64 ((x.cl.d : Nat) : Int), .slice x.A x.subs.length x.cap, .int .i64 x.pos] [.int .i64 x.kind, .string (bs x.text), .int .u64 ((x.cl.a : Nat) : Int), .int .u64 ((x.cl.b : Nat) : Int), .int .u64 ((x.cl.c : Nat) : Int), .int .u64 ((x.cl.d : Nat) : Int), .slice x.A x.subs.length x.cap, .int .i64 x.pos] rfl hH rfl rfl ?_)
 clear hH; intro w49 hH
 refine Dn ?_
 obtain ⟨⟨xz, xq, xfl⟩, hxo⟩ : ∃ o, outF T x.nd = o := ⟨_, rfl⟩
 refine sw_sr <| Gq rfl (La 2 [.slice A n cap, .map (some m)] hH rfl rfl) <| Gq rfl (La 3 [.int .i64 x.kind, .string (bs x.text), .int .u64 ((x.cl.a : Nat) : Int), .int .u64 ((x.cl.b : Nat) : Int), .int .u64 ((x.cl.c : Nat) : Int), .int .u64 ((x.cl.d : Nat) : Int), .slice x.A x.subs.length x.cap, .int .i64 x.pos] hH rfl rfl) ?_
 replace hH : Hp w w49 _ _ ([_] ++ [_, _, _]) := hH
 refine gl_st (Sc rfl rfl (so_at (IH x hxm) T hxo A n cap m c _ (hok.subs x hxm) (hpa.2 x hxm) hH.zoff hH.mine) ?_)
 rintro _ w50 ⟨rfl, hF51⟩
 replace hH := hH.turns hF51
 replace hH := hH.n4
 refine gl_st (Alc [.bool false, .bool false, .bool false] rfl hH ?_)
 clear hH; intro b52 w53 hH
 refine gl_st (Ka 4 [.bool xz, .bool xq, .bool xfl] [.bool xz, .bool xq, .bool xfl] rfl hH rfl rfl ?_)
 clear hH; intro w54 hH
 refine Dn <| sw_sr <| Go1 1 117 (Pp b5 2) <| Gq rfl (Lk 0 hH rfl rfl rfl) <| Dn <| sw_cond rfl rfl (fun hc26 => ?_) (fun hc26 => ?_)
 refine sw_cv 118 (.bool true) (by rw [hc26]) rfl ?_
 obtain rfl : ofl = true := by simpa using hc26
 refine sw_region <| Go1 1 119 (Pp b5 0) <| Gq rfl (Lk 0 hH rfl rfl rfl) <| Go1 1 121 (.bool oz) <| gl_split 121 (b := oz) rfl (fun hg27 => ?_) (fun hg27 => ?_)
 obtain rfl : oz = true := by simpa using hg27
 refine Go2 4 124 (.bool true) 125 (Pp b5 1) <| Gq rfl (Lk 0 hH rfl rfl rfl) <| Go1 1 127 (.bool oq) <| gl_split 127 (b := oq) rfl (fun hg28 => ?_) (fun hg28 => ?_)
 obtain rfl : oq = true := by simpa using hg28
 refine Go2 4 130 (.bool true) 131 (Pp b52 2) <| Gq rfl (Lk 4 hH rfl rfl rfl) <| Go1 1 133 (.agg #[.bool true, .bool true, .bool xfl]) <| gl_st (Ka 0 [.bool true, .bool true, .bool xfl] [.bool true, .bool true, .bool xfl] rfl hH rfl rfl ?_)
 clear hH; intro w55 hH
 refine Dd <| bkN <| sw_next <| sw_region <| Gw0 1 134 ((i : Int) + 1) ((i + 1 : Nat) : Int) <| Go1 1 110 (Ni (i + 1)) <| Dd <| rnd_end (g := (i, true, true, true)) (i + 1, true, true, xfl) (by kernel_rfl) ?_ ?_
 replace hH := hH.fr2.fr2.fr4
 replace hH := (hH.sb (slk (slk (slk sln)))).n3
 · exact ⟨by rw [hm, outAlt_at hx, hxo]; first | rfl | (simp [behindF, insteadF]), by omega, hH⟩
 · show t.subs.length - (i + 1) < t.subs.length - i; omega
 obtain rfl : oq = false := by simpa using hg28
 refine Go1 1 128 (Pp b52 1) <| Gq rfl (Lk 4 hH rfl rfl rfl) <| Go2 2 130 (.bool xq) 131 (Pp b52 2) <| Gq rfl (Lk 4 hH rfl rfl rfl) <| Go1 1 133 (.agg #[.bool true, .bool xq, .bool xfl]) <| gl_st (Ka 0 [.bool true, .bool xq, .bool xfl] [.bool true, .bool xq, .bool xfl] rfl hH rfl rfl ?_)
 clear hH; intro w56 hH
 refine Dd <| bkN <| sw_next <| sw_region <| glo 1 [(2, Pp b1 0), (4, Pp b5 0), (108, .slice t.A t.subs.length t.cap), (109, Ni t.subs.length), (134, .int .i64 (IntKind.i64.wrap ((i : Int) + 1)))] <| gl_cv 134 (Ni (i + 1)) (cv_i64 (by omega)) rfl <| Go1 1 110 (Ni (i + 1)) <| Dd <| rnd_end (g := (i, true, false, true)) (i + 1, true, xq, xfl) (by kernel_rfl) ?_ ?_
 replace hH := hH.fr2.fr2.fr4
 replace hH := (hH.sb (slk (slk (slk sln)))).n3
 · exact ⟨by rw [hm, outAlt_at hx, hxo]; first | rfl | (simp [behindF, insteadF]), by omega, hH⟩
 · show t.subs.length - (i + 1) < t.subs.length - i; omega
 obtain rfl : oz = false := by simpa using hg27
 refine Go1 1 122 (Pp b52 0) <| Gq rfl (Lk 4 hH rfl rfl rfl) <| Go2 2 124 (.bool xz) 125 (Pp b5 1) <| Gq rfl (Lk 0 hH rfl rfl rfl) <| Go1 1 127 (.bool oq) <| gl_split 127 (b := oq) rfl (fun hg29 => ?_) (fun hg29 => ?_)
 obtain rfl : oq = true := by simpa using hg29
 refine Go2 4 130 (.bool true) 131 (Pp b52 2) <| Gq rfl (Lk 4 hH rfl rfl rfl) <| Go1 1 133 (.agg #[.bool xz, .bool true, .bool xfl]) <| gl_st (Ka 0 [.bool xz, .bool true, .bool xfl] [.bool xz, .bool true, .bool xfl] rfl hH rfl rfl ?_)
 clear hH; intro w57 hH
 refine Dd <| bkN <| sw_next <| sw_region <| glo 1 [(2, Pp b1 0), (4, Pp b5 0), (108, .slice t.A t.subs.length t.cap), (109, Ni t.subs.length), (134, .int .i64 (IntKind.i64.wrap ((i : Int) + 1)))] <| gl_cv 134 (Ni (i + 1)) (cv_i64 (by omega)) rfl <| Go1 1 110 (Ni (i + 1)) <| Dd <| rnd_end (g := (i, false, true, true)) (i + 1, xz, true, xfl) (by kernel_rfl) ?_ ?_
 replace hH := hH.fr2.fr2.fr4
 replace hH := (hH.sb (slk (slk (slk sln)))).n3
 · exact ⟨by rw [hm, outAlt_at hx, hxo]; first | rfl | (simp [behindF, insteadF]), by omega, hH⟩
 · show t.subs.length - (i + 1) < t.subs.length - i; omega
 obtain rfl : oq = false := by simpa using hg29
 refine Go1 1 128 (Pp b52 1) <| Gq rfl (Lk 4 hH rfl rfl rfl) <| Go2 2 130 (.bool xq) 131 (Pp b52 2) <| Gq rfl (Lk 4 hH rfl rfl rfl) <| glo 1 [(2, Pp b1 0), (4, Pp b5 0), (108, .slice t.A t.subs.length t.cap), (109, Ni t.subs.length), (110, Ni i), (133, .agg #[.bool xz, .bool xq, .bool xfl])] <| gl_st (Ka 0 [.bool xz, .bool xq, .bool xfl] [.bool xz, .bool xq, .bool xfl] rfl hH rfl rfl ?_)
 clear hH; intro w58 hH
 refine Dd <| bkN <| sw_next <| sw_region <| Gw0 1 134 ((i : Int) + 1) ((i + 1 : Nat) : Int) <| Go1 1 110 (Ni (i + 1)) <| Dd <| rnd_end (g := (i, false, false, true)) (i + 1, xz, xq, xfl) (by kernel_rfl) ?_ ?_
 replace hH := hH.fr2.fr2.fr4
 replace hH := (hH.sb (slk (slk (slk sln)))).n3
 · exact ⟨by rw [hm, outAlt_at hx, hxo]; first | rfl | (simp [behindF, insteadF]), by omega, hH⟩
 · show t.subs.length - (i + 1) < t.subs.length - i; omega
 refine sw_cv 118 (.bool false) (by rw [hc26]) rfl ?_
 obtain rfl : ofl = false := by simpa using hc26
 refine sw_skip <| bkN <| sw_next <| sw_region <| Gw0 1 134 ((i : Int) + 1) ((i + 1 : Nat) : Int) <| Go1 1 110 (Ni (i + 1)) <| Dd <| rnd_end (g := (i, oz, oq, false)) (i + 1, oz, oq, false) (by kernel_rfl) ?_ ?_
 replace hH := hH.fr2.fr2.fr4
 replace hH := (hH.sb (slk (slk (slk sln)))).n3
 · exact ⟨by rw [hm, outAlt_at hx, hxo]; first | rfl | (simp [behindF, insteadF]), by omega, hH⟩
 · show t.subs.length - (i + 1) < t.subs.length - i; omega
 refine sw_cv 111 (.bool false) (by rw [hc25]) rfl ?_
 try simp only [decide_eq_false_iff_not, Int.not_lt, Int.not_le] at hc25
 refine sw_exit <| thX <| thX <| bkH <| sw_next <| sw_sr <| Gq rfl (La 1 [.bool oz, .bool oq, .bool ofl] hH rfl rfl) <| gl_st (Ka 1 [.bool oz, .bool oq, .bool ofl] [.bool oz, .bool oq, .bool ofl] rfl hH rfl rfl ?_)
 clear hH; intro w59 hH
 refine Dn <| sw_ret <| bkR <| thR <| retC1 rfl (RS.cellA hH 1 (by kernel_rfl) rfl rfl (by kernel_rfl) [.bool oz, .bool oq, .bool ofl] rfl rfl) ?_
 replace hH := (hH.sb (slk sln)).n1
 exact ⟨by rw [outF_eq T t, if_neg (by omega), if_neg (by omega), if_neg (by omega), if_neg (by omega), if_neg (by omega), if_neg (by omega), if_pos hk7, hm, List.drop_eq_nil_of_le (by omega)]; rfl, hH.turned⟩
 refine sw_cv 104 (.bool false) (by rw [hc24]) rfl ?_
 try simp only [beq_eq_false_iff_ne, ne_eq] at hc24
 have hk7 : ¬ t.kind = 7 := hc24
 refine sw_skip <| bkN <| sw_next <| sw_seq ?_
 have hone := okHd_one hpa.1 (by omega)
 obtain ⟨x, hx⟩ : ∃ x, t.subs[0]? = some x := ⟨_, List.getElem?_eq_getElem (by omega)⟩
 have hxm := List.mem_of_getElem? hx
 obtain ⟨⟨xz, xq, xfl⟩, hxo⟩ : ∃ o, outF T x.nd = o := ⟨_, rfl⟩
 refine Dr hH (slc (slk (slk (slk sln)))) ?_
 clear hH; intro w60 hH hS9
 refine Dq 0 rfl (fun _ hS => (La 0 [.slice A n cap, .map (some m)] hS rfl rfl)) hS9 <| Gp1 1 [1] 137 (Pp b3 6) hS9 <| Dq 2 rfl (fun _ hS => (Lk 1 hS rfl rfl rfl)) hS9 ?_
 obtain ⟨p61, hi63, hp62⟩ := hok.row.idx 0 (by omega) (by decide)
 refine Dq 3 rfl (fun _ hS => (Ix (e := 41) 8 rfl rfl hi63)) hS9 <| Dq 4 rfl (fun _ hS => (rd_loadZA (by kernel_rfl) hS hp62 rfl 0 rfl [.int .i64 x.kind, .string (bs x.text), .int .u64 ((x.cl.a : Nat) : Int), .int .u64 ((x.cl.b : Nat) : Int), .int .u64 ((x.cl.c : Nat) : Int), .int .u64 ((x.cl.d : Nat) : Int), .slice x.A x.subs.length x.cap, .int .i64 x.pos] (by kernel_rfl) (rowC_all tvC_len hx 0 _ rfl))) hS9 <| gd_st2 5 6 (by kernel_rfl) ?_ ?_
 replace hH : Hp w w60 _ _ ([_] ++ [_, _, _]) := hH
 refine Sc rfl rfl (so_at (IH x hxm) T hxo A n cap m c _ (hok.subs x hxm) (hpa.2 x hxm) hH.zoff hH.mine) ?_
 rintro _ w64 ⟨rfl, hF65⟩
 replace hH := hH.turns hF65
 replace hH := hH.n4
 refine Nl (hH.sb (slk (slk (slk sln)))) fun hS9 => gdk [(3, Pp b3 0), (4, Pp b5 0), (141, .agg #[.bool xz, .bool xq, .bool xfl])] <| gds 6 (Alc [.bool false, .bool false, .bool false] rfl hH ?_)
 clear hH; intro b66 w67 hH
 refine Nl (hH.sb (slk (slk (slk sln)))) fun hS9 => gds 7 (Ka 4 [.bool xz, .bool xq, .bool xfl] [.bool xz, .bool xq, .bool xfl] rfl hH rfl rfl ?_)
 clear hH; intro w68 hH
 refine Nl (hH.sb (slk (slk (slk sln)))) fun hS9 => gdn [(3, Pp b3 0), (4, Pp b5 0), (12, Pp b66 0)] <| sw_next <| sw_seq <| sw_sr <| Go1 1 142 (Pp b3 0) <| Gq rfl (Lk 1 hH rfl rfl rfl) <| Dn <| sw_block <| sw_sr <| Go1 2 144 (.bool ((t.kind : Int) == (8 : Int))) <| Dn <| sw_cond rfl rfl (fun hc30 => ?_) (fun hc30 => ?_)
 refine sw_cv 144 (.bool true) (by rw [hc30]) rfl ?_
 try simp only [beq_iff_eq] at hc30
 have hk8 : t.kind = 8 := hc30
 refine sw_sr <| Go1 1 146 (Pp b66 0) <| Gq rfl (Lk 4 hH rfl rfl rfl) <| Go1 1 148 (.bool xz) <| gl_split 148 (b := xz) rfl (fun hg31 => ?_) (fun hg31 => ?_)
 obtain rfl : xz = true := by simpa using hg31
 refine Go2 4 151 (.bool true) 152 (Pp b66 1) <| Gq rfl (Lk 4 hH rfl rfl rfl) <| Go1 1 154 (.agg #[.bool true, .bool xq, .bool false]) <| gl_st (Ka 2 [.bool true, .bool xq, .bool false] [.bool true, .bool xq, .bool false] rfl hH rfl rfl ?_)
 clear hH; intro w69 hH
 refine Dn <| sw_ret <| bkR <| thR <| retC1 rfl (RS.cellA hH 2 (by kernel_rfl) rfl rfl (by kernel_rfl) [.bool true, .bool xq, .bool false] rfl rfl) ?_
 replace hH := hH.fr4
 replace hH := (hH.sb (slk sln)).n1
 exact ⟨by rw [outF_eq T t, if_neg (by omega), if_neg (by omega), if_neg (by omega), if_neg (by omega), if_neg (by omega), if_neg (by omega), if_neg (by omega), outHd_at hx, hxo, aloneF, if_pos hk8]; first | rfl | (simp [ouV, ouC]), hH.turned⟩
 obtain rfl : xz = false := by simpa using hg31
 refine Go1 1 149 (Pp b66 2) <| Gq rfl (Lk 4 hH rfl rfl rfl) <| Go2 2 151 (.bool xfl) 152 (Pp b66 1) <| Gq rfl (Lk 4 hH rfl rfl rfl) <| Go1 1 154 (.agg #[.bool xfl, .bool xq, .bool false]) <| gl_st (Ka 2 [.bool xfl, .bool xq, .bool false] [.bool xfl, .bool xq, .bool false] rfl hH rfl rfl ?_)
 clear hH; intro w70 hH
 refine Dn <| sw_ret <| bkR <| thR <| retC1 rfl (RS.cellA hH 2 (by kernel_rfl) rfl rfl (by kernel_rfl) [.bool xfl, .bool xq, .bool false] rfl rfl) ?_
 replace hH := hH.fr4
 replace hH := (hH.sb (slk sln)).n1
 exact ⟨by rw [outF_eq T t, if_neg (by omega), if_neg (by omega), if_neg (by omega), if_neg (by omega), if_neg (by omega), if_neg (by omega), if_neg (by omega), outHd_at hx, hxo, aloneF, if_pos hk8]; first | rfl | (simp [ouV, ouC]), hH.turned⟩
 refine sw_cv 144 (.bool false) (by rw [hc30]) rfl ?_
 try simp only [beq_eq_false_iff_ne, ne_eq] at hc30
 have hk8 : ¬ t.kind = 8 := hc30
 refine sw_sr <| Go1 2 155 (.bool ((t.kind : Int) == (9 : Int))) <| Dn <| sw_cond rfl rfl (fun hc32 => ?_) (fun hc32 => ?_)
 refine sw_cv 155 (.bool true) (by rw [hc32]) rfl ?_
 try simp only [beq_iff_eq] at hc32
 have hk9 : t.kind = 9 := hc32
 refine sw_sr <| Go1 1 157 (Pp b66 2) <| Gq rfl (Lk 4 hH rfl rfl rfl) <| Go1 1 159 (Pp b66 1) <| Gq rfl (Lk 4 hH rfl rfl rfl) <| Go1 1 161 (.agg #[.bool xfl, .bool xq, .bool false]) <| gl_st (Ka 2 [.bool xfl, .bool xq, .bool false] [.bool xfl, .bool xq, .bool false] rfl hH rfl rfl ?_)
 clear hH; intro w71 hH
 refine Dn <| sw_ret <| bkR <| thR <| retC1 rfl (RS.cellA hH 2 (by kernel_rfl) rfl rfl (by kernel_rfl) [.bool xfl, .bool xq, .bool false] rfl rfl) ?_
 replace hH := hH.fr4
 replace hH := (hH.sb (slk sln)).n1
 exact ⟨by rw [outF_eq T t, if_neg (by omega), if_neg (by omega), if_neg (by omega), if_neg (by omega), if_neg (by omega), if_neg (by omega), if_neg (by omega), outHd_at hx, hxo, aloneF, if_neg (by omega), if_pos hk9]; first | rfl | (simp [ouV, ouC]), hH.turned⟩
 refine sw_cv 155 (.bool false) (by rw [hc32]) rfl ?_
 try simp only [beq_eq_false_iff_ne, ne_eq] at hc32
 have hk9 : ¬ t.kind = 9 := hc32
 refine sw_sr <| Go1 2 162 (.bool ((t.kind : Int) == (10 : Int))) <| Dn <| sw_cond rfl rfl (fun hc33 => ?_) (fun hc33 => ?_)
 refine sw_cv 162 (.bool true) (by rw [hc33]) rfl ?_
 try simp only [beq_iff_eq] at hc33
 have hk10 : t.kind = 10 := hc33
 refine sw_sr <| Go1 1 164 (Pp b66 0) <| Gq rfl (Lk 4 hH rfl rfl rfl) <| Go1 1 166 (.bool xz) <| gl_split 166 (b := xz) rfl (fun hg34 => ?_) (fun hg34 => ?_)
 obtain rfl : xz = true := by simpa using hg34
 refine Go1 1 167 (Pp b66 2) <| Gq rfl (Lk 4 hH rfl rfl rfl) <| Go2 2 169 (.bool xfl) 170 (Pp b66 1) <| Gq rfl (Lk 4 hH rfl rfl rfl) <| Go1 1 172 (Pp b66 2) <| Gq rfl (Lk 4 hH rfl rfl rfl) <| Go1 1 174 (.agg #[.bool xfl, .bool xq, .bool xfl]) <| gl_st (Ka 2 [.bool xfl, .bool xq, .bool xfl] [.bool xfl, .bool xq, .bool xfl] rfl hH rfl rfl ?_)
 clear hH; intro w72 hH
 refine Dn <| sw_ret <| bkR <| thR <| retC1 rfl (RS.cellA hH 2 (by kernel_rfl) rfl rfl (by kernel_rfl) [.bool xfl, .bool xq, .bool xfl] rfl rfl) ?_
 replace hH := hH.fr4
 replace hH := (hH.sb (slk sln)).n1
 exact ⟨by rw [outF_eq T t, if_neg (by omega), if_neg (by omega), if_neg (by omega), if_neg (by omega), if_neg (by omega), if_neg (by omega), if_neg (by omega), outHd_at hx, hxo, aloneF, if_neg (by omega), if_neg (by omega), if_pos hk10]; first | rfl | (simp [ouV, ouC]), hH.turned⟩
 obtain rfl : xz = false := by simpa using hg34
 refine Go2 4 169 (.bool false) 170 (Pp b66 1) <| Gq rfl (Lk 4 hH rfl rfl rfl) <| Go1 1 172 (Pp b66 2) <| Gq rfl (Lk 4 hH rfl rfl rfl) <| Go1 1 174 (.agg #[.bool false, .bool xq, .bool xfl]) <| gl_st (Ka 2 [.bool false, .bool xq, .bool xfl] [.bool false, .bool xq, .bool xfl] rfl hH rfl rfl ?_)
 clear hH; intro w73 hH
 refine Dn <| sw_ret <| bkR <| thR <| retC1 rfl (RS.cellA hH 2 (by kernel_rfl) rfl rfl (by kernel_rfl) [.bool false, .bool xq, .bool xfl] rfl rfl) ?_
 replace hH := hH.fr4
 replace hH := (hH.sb (slk sln)).n1
 exact ⟨by rw [outF_eq T t, if_neg (by omega), if_neg (by omega), if_neg (by omega), if_neg (by omega), if_neg (by omega), if_neg (by omega), if_neg (by omega), outHd_at hx, hxo, aloneF, if_neg (by omega), if_neg (by omega), if_pos hk10]; first | rfl | (simp [ouV, ouC]), hH.turned⟩
 refine sw_cv 162 (.bool false) (by rw [hc33]) rfl ?_
 try simp only [beq_eq_false_iff_ne, ne_eq] at hc33
 have hk10 : ¬ t.kind = 10 := hc33
 refine sw_sr <| Go1 2 175 (.bool ((t.kind : Int) == (11 : Int))) <| Dn <| sw_cond rfl rfl (fun hc35 => ?_) (fun hc35 => ?_)
 refine sw_cv 175 (.bool true) (by rw [hc35]) rfl ?_
 try simp only [beq_iff_eq] at hc35
 have hk11 : t.kind = 11 := hc35
 refine sw_sr <| Go1 1 177 (Pp b66 0) <| Gq rfl (Lk 4 hH rfl rfl rfl) <| Go1 1 179 (.bool xz) <| gl_split 179 (b := xz) rfl (fun hg36 => ?_) (fun hg36 => ?_)
 obtain rfl : xz = true := by simpa using hg36
 refine Go2 4 182 (.bool true) 183 (Pp b66 2) <| Gq rfl (Lk 4 hH rfl rfl rfl) <| Go1 1 185 (.agg #[.bool true, .bool false, .bool xfl]) <| gl_st (Ka 2 [.bool true, .bool false, .bool xfl] [.bool true, .bool false, .bool xfl] rfl hH rfl rfl ?_)
 clear hH; intro w74 hH
 refine Dn <| sw_ret <| bkR <| thR <| retC1 rfl (RS.cellA hH 2 (by kernel_rfl) rfl rfl (by kernel_rfl) [.bool true, .bool false, .bool xfl] rfl rfl) ?_
 replace hH := hH.fr4
 replace hH := (hH.sb (slk sln)).n1
 exact ⟨by rw [outF_eq T t, if_neg (by omega), if_neg (by omega), if_neg (by omega), if_neg (by omega), if_neg (by omega), if_neg (by omega), if_neg (by omega), outHd_at hx, hxo, aloneF, if_neg (by omega), if_neg (by omega), if_neg (by omega), if_pos hk11]; first | rfl | (simp [ouV, ouC]), hH.turned⟩
 obtain rfl : xz = false := by simpa using hg36
 refine Go1 1 180 (Pp b66 1) <| Gq rfl (Lk 4 hH rfl rfl rfl) <| Go2 2 182 (.bool xq) 183 (Pp b66 2) <| Gq rfl (Lk 4 hH rfl rfl rfl) <| Go1 1 185 (.agg #[.bool xq, .bool false, .bool xfl]) <| gl_st (Ka 2 [.bool xq, .bool false, .bool xfl] [.bool xq, .bool false, .bool xfl] rfl hH rfl rfl ?_)
 clear hH; intro w75 hH
 refine Dn <| sw_ret <| bkR <| thR <| retC1 rfl (RS.cellA hH 2 (by kernel_rfl) rfl rfl (by kernel_rfl) [.bool xq, .bool false, .bool xfl] rfl rfl) ?_
 replace hH := hH.fr4
 replace hH := (hH.sb (slk sln)).n1
 exact ⟨by rw [outF_eq T t, if_neg (by omega), if_neg (by omega), if_neg (by omega), if_neg (by omega), if_neg (by omega), if_neg (by omega), if_neg (by omega), outHd_at hx, hxo, aloneF, if_neg (by omega), if_neg (by omega), if_neg (by omega), if_pos hk11]; first | rfl | (simp [ouV, ouC]), hH.turned⟩
 refine sw_cv 175 (.bool false) (by rw [hc35]) rfl ?_
 try simp only [beq_eq_false_iff_ne, ne_eq] at hc35
 have hk11 : ¬ t.kind = 11 := hc35
 refine sw_skip <| bkN <| sw_next <| sw_sr <| Go1 1 186 (Pp b66 2) <| Gq rfl (Lk 4 hH rfl rfl rfl) <| Go1 1 188 (Pp b66 0) <| Gq rfl (Lk 4 hH rfl rfl rfl) <| Go1 1 190 (.bool xz) <| gl_split 190 (b := xz) rfl (fun hg37 => ?_) (fun hg37 => ?_)
 obtain rfl : xz = true := by simpa using hg37
 refine Go1 4 194 (.agg #[.bool xfl, .bool false, .bool true]) <| gl_st (Ka 2 [.bool xfl, .bool false, .bool true] [.bool xfl, .bool false, .bool true] rfl hH rfl rfl ?_)
 clear hH; intro w76 hH
 refine Dn <| sw_ret <| retC1 rfl (RS.cellA hH 2 (by kernel_rfl) rfl rfl (by kernel_rfl) [.bool xfl, .bool false, .bool true] rfl rfl) ?_
 replace hH := hH.fr4
 replace hH := (hH.sb (slk sln)).n1
 exact ⟨by rw [outF_eq T t, if_neg (by omega), if_neg (by omega), if_neg (by omega), if_neg (by omega), if_neg (by omega), if_neg (by omega), if_neg (by omega), outHd_at hx, hxo, aloneF, if_neg (by omega), if_neg (by omega), if_neg (by omega), if_neg (by omega), if_pos (by omega)]; first | rfl | (simp [ouV, ouC]), hH.turned⟩
 obtain rfl : xz = false := by simpa using hg37
 refine Go1 1 191 (Pp b66 1) <| Gq rfl (Lk 4 hH rfl rfl rfl) <| Go1 2 194 (.agg #[.bool xfl, .bool false, .bool xq]) <| gl_st (Ka 2 [.bool xfl, .bool false, .bool xq] [.bool xfl, .bool false, .bool xq] rfl hH rfl rfl ?_)
 clear hH; intro w77 hH
 refine Dn <| sw_ret <| retC1 rfl (RS.cellA hH 2 (by kernel_rfl) rfl rfl (by kernel_rfl) [.bool xfl, .bool false, .bool xq] rfl rfl) ?_
 replace hH := hH.fr4
 replace hH := (hH.sb (slk sln)).n1
 exact ⟨by rw [outF_eq T t, if_neg (by omega), if_neg (by omega), if_neg (by omega), if_neg (by omega), if_neg (by omega), if_neg (by omega), if_neg (by omega), outHd_at hx, hxo, aloneF, if_neg (by omega), if_neg (by omega), if_neg (by omega), if_neg (by omega), if_pos (by omega)]; first | rfl | (simp [ouV, ouC]), hH.turned⟩
 refine Alc [.bool false, .bool false, .bool false] rfl hH ?_
 clear hH; intro b78 w79 hH
 refine Nl (hH.sb (slc (slk (slk (slk sln))))) fun hS9 => gdk [(3, Pp b3 0), (4, Pp b5 0), (12, Pp b78 0), (136, .agg #[.slice A n cap, .map (some m)]), (140, .agg #[.int .i64 x.kind, .string (bs x.text), .int .u64 ((x.cl.a : Nat) : Int), .int .u64 ((x.cl.b : Nat) : Int), .int .u64 ((x.cl.c : Nat) : Int), .int .u64 ((x.cl.d : Nat) : Int), .slice x.A x.subs.length x.cap, .int .i64 x.pos])] ?_
 replace hH : Hp w w79 _ _ ([_] ++ [_, _, _, _]) := hH
 refine gds 5 (Sc rfl rfl (so_at (IH x hxm) T hxo A n cap m c _ (hok.subs x hxm) (hpa.2 x hxm) hH.zoff hH.mine) ?_)
 rintro _ w80 ⟨rfl, hF81⟩
 replace hH := hH.turns hF81
 replace hH := hH.n5
 refine Nl (hH.sb (slk (slk (slk sln)))) fun hS9 => gds 7 (Ka 3 [.bool xz, .bool xq, .bool xfl] [.bool xz, .bool xq, .bool xfl] rfl hH rfl rfl ?_)
 clear hH; intro w82 hH
 refine Nl (hH.sb (slk (slk (slk sln)))) fun hS9 => gdn [(3, Pp b3 0), (4, Pp b5 0), (12, Pp b78 0)] <| sw_next <| sw_seq <| sw_sr <| Go1 1 142 (Pp b3 0) <| Gq rfl (Lk 1 hH rfl rfl rfl) <| Dn <| sw_block <| sw_sr <| Go1 2 144 (.bool ((t.kind : Int) == (8 : Int))) <| Dn <| sw_cond rfl rfl (fun hc38 => ?_) (fun hc38 => ?_)
 refine sw_cv 144 (.bool true) (by rw [hc38]) rfl ?_
 try simp only [beq_iff_eq] at hc38
 have hk8 : t.kind = 8 := hc38
 refine sw_sr <| Go1 1 146 (Pp b78 0) <| Gq rfl (Lk 3 hH rfl rfl rfl) <| Go1 1 148 (.bool xz) <| gl_split 148 (b := xz) rfl (fun hg39 => ?_) (fun hg39 => ?_)
 obtain rfl : xz = true := by simpa using hg39
 refine Go2 4 151 (.bool true) 152 (Pp b78 1) <| Gq rfl (Lk 3 hH rfl rfl rfl) <| Go1 1 154 (.agg #[.bool true, .bool xq, .bool false]) <| gl_st (Ka 2 [.bool true, .bool xq, .bool false] [.bool true, .bool xq, .bool false] rfl hH rfl rfl ?_)
 clear hH; intro w83 hH
 refine Dn <| sw_ret <| bkR <| thR <| retC1 rfl (RS.cellA hH 2 (by kernel_rfl) rfl rfl (by kernel_rfl) [.bool true, .bool xq, .bool false] rfl rfl) ?_
 replace hH := hH.fr5
 replace hH := (hH.sb (slk sln)).n1
 exact ⟨by rw [outF_eq T t, if_neg (by omega), if_neg (by omega), if_neg (by omega), if_neg (by omega), if_neg (by omega), if_neg (by omega), if_neg (by omega), outHd_at hx, hxo, aloneF, if_pos hk8]; first | rfl | (simp [ouV, ouC]), hH.turned⟩
 obtain rfl : xz = false := by simpa using hg39
 refine Go1 1 149 (Pp b78 2) <| Gq rfl (Lk 3 hH rfl rfl rfl) <| Go2 2 151 (.bool xfl) 152 (Pp b78 1) <| Gq rfl (Lk 3 hH rfl rfl rfl) <| Go1 1 154 (.agg #[.bool xfl, .bool xq, .bool false]) <| gl_st (Ka 2 [.bool xfl, .bool xq, .bool false] [.bool xfl, .bool xq, .bool false] rfl hH rfl rfl ?_)
 clear hH; intro w84 hH
 refine Dn <| sw_ret <| bkR <| thR <| retC1 rfl (RS.cellA hH 2 (by kernel_rfl) rfl rfl (by kernel_rfl) [.bool xfl, .bool xq, .bool false] rfl rfl) ?_
 replace hH := hH.fr5
 replace hH := (hH.sb (slk sln)).n1
 exact ⟨by rw [outF_eq T t, if_neg (by omega), if_neg (by omega), if_neg (by omega), if_neg (by omega), if_neg (by omega), if_neg (by omega), if_neg (by omega), outHd_at hx, hxo, aloneF, if_pos hk8]; first | rfl | (simp [ouV, ouC]), hH.turned⟩
 refine sw_cv 144 (.bool false) (by rw [hc38]) rfl ?_
 try simp only [beq_eq_false_iff_ne, ne_eq] at hc38
 have hk8 : ¬ t.kind = 8 := hc38
 refine sw_sr <| Go1 2 155 (.bool ((t.kind : Int) == (9 : Int))) <| Dn <| sw_cond rfl rfl (fun hc40 => ?_) (fun hc40 => ?_)
 refine sw_cv 155 (.bool true) (by rw [hc40]) rfl ?_
 try simp only [beq_iff_eq] at hc40
 have hk9 : t.kind = 9 := hc40
 refine sw_sr <| Go1 1 157 (Pp b78 2) <| Gq rfl (Lk 3 hH rfl rfl rfl) <| Go1 1 159 (Pp b78 1) <| Gq rfl (Lk 3 hH rfl rfl rfl) <| Go1 1 161 (.agg #[.bool xfl, .bool xq, .bool false]) <| gl_st (Ka 2 [.bool xfl, .bool xq, .bool false] [.bool xfl, .bool xq, .bool false] rfl hH rfl rfl ?_)
 clear hH; intro w85 hH
 refine Dn <| sw_ret <| bkR <| thR <| retC1 rfl (RS.cellA hH 2 (by kernel_rfl) rfl rfl (by kernel_rfl) [.bool xfl, .bool xq, .bool false] rfl rfl) ?_
 replace hH := hH.fr5
 replace hH := (hH.sb (slk sln)).n1
 exact ⟨by rw [outF_eq T t, if_neg (by omega), if_neg (by omega), if_neg (by omega), if_neg (by omega), if_neg (by omega), if_neg (by omega), if_neg (by omega), outHd_at hx, hxo, aloneF, if_neg (by omega), if_pos hk9]; first | rfl | (simp [ouV, ouC]), hH.turned⟩
 refine sw_cv 155 (.bool false) (by rw [hc40]) rfl ?_
 try simp only [beq_eq_false_iff_ne, ne_eq] at hc40
 have hk9 : ¬ t.kind = 9 := hc40
 refine sw_sr <| Go1 2 162 (.bool ((t.kind : Int) == (10 : Int))) <| Dn <| sw_cond rfl rfl (fun hc41 => ?_) (fun hc41 => ?_)
 refine sw_cv 162 (.bool true) (by rw [hc41]) rfl ?_
 try simp only [beq_iff_eq] at hc41
 have hk10 : t.kind = 10 := hc41
 refine sw_sr <| Go1 1 164 (Pp b78 0) <| Gq rfl (Lk 3 hH rfl rfl rfl) <| Go1 1 166 (.bool xz) <| gl_split 166 (b := xz) rfl (fun hg42 => ?_) (fun hg42 => ?_)
 obtain rfl : xz = true := by simpa using hg42
 refine Go1 1 167 (Pp b78 2) <| Gq rfl (Lk 3 hH rfl rfl rfl) <| Go2 2 169 (.bool xfl) 170 (Pp b78 1) <| Gq rfl (Lk 3 hH rfl rfl rfl) <| Go1 1 172 (Pp b78 2) <| Gq rfl (Lk 3 hH rfl rfl rfl) <| Go1 1 174 (.agg #[.bool xfl, .bool xq, .bool xfl]) <| gl_st (Ka 2 [.bool xfl, .bool xq, .bool xfl] [.bool xfl, .bool xq, .bool xfl] rfl hH rfl rfl ?_)
 clear hH; intro w86 hH
 refine Dn <| sw_ret <| bkR <| thR <| retC1 rfl (RS.cellA hH 2 (by kernel_rfl) rfl rfl (by kernel_rfl) [.bool xfl, .bool xq, .bool xfl] rfl rfl) ?_
 replace hH := hH.fr5
 replace hH := (hH.sb (slk sln)).n1
 exact ⟨by rw [outF_eq T t, if_neg (by omega), if_neg (by omega), if_neg (by omega), if_neg (by omega), if_neg (by omega), if_neg (by omega), if_neg (by omega), outHd_at hx, hxo, aloneF, if_neg (by omega), if_neg (by omega), if_pos hk10]; first | rfl | (simp [ouV, ouC]), hH.turned⟩
 obtain rfl : xz = false := by simpa using hg42
 refine Go2 4 169 (.bool false) 170 (Pp b78 1) <| Gq rfl (Lk 3 hH rfl rfl rfl) <| Go1 1 172 (Pp b78 2) <| Gq rfl (Lk 3 hH rfl rfl rfl) <| Go1 1 174 (.agg #[.bool false, .bool xq, .bool xfl]) <| gl_st (Ka 2 [.bool false, .bool xq, .bool xfl] [.bool false, .bool xq, .bool xfl] rfl hH rfl rfl ?_)
 clear hH; intro w87 hH
 refine Dn <| sw_ret <| bkR <| thR <| retC1 rfl (RS.cellA hH 2 (by kernel_rfl) rfl rfl (by kernel_rfl) [.bool false, .bool xq, .bool xfl] rfl rfl) ?_
 replace hH := hH.fr5
 replace hH := (hH.sb (slk sln)).n1
 exact ⟨by rw [outF_eq T t, if_neg (by omega), if_neg (by omega), if_neg (by omega), if_neg (by omega), if_neg (by omega), if_neg (by omega), if_neg (by omega), outHd_at hx, hxo, aloneF, if_neg (by omega), if_neg (by omega), if_pos hk10]; first | rfl | (simp [ouV, ouC]), hH.turned⟩
 refine sw_cv 162 (.bool false) (by rw [hc41]) rfl ?_
 try simp only [beq_eq_false_iff_ne, ne_eq] at hc41
 have hk10 : ¬ t.kind = 10 := hc41
 refine sw_sr <| Go1 2 175 (.bool ((t.kind : Int) == (11 : Int))) <| Dn <| sw_cond rfl rfl (fun hc43 => ?_) (fun hc43 => ?_)
 refine sw_cv 175 (.bool true) (by rw [hc43]) rfl ?_
 try simp only [beq_iff_eq] at hc43
 have hk11 : t.kind = 11 := hc43
 refine sw_sr <| Go1 1 177 (Pp b78 0) <| Gq rfl (Lk 3 hH rfl rfl rfl) <| Go1 1 179 (.bool xz) <| gl_split 179 (b := xz) rfl (fun hg44 => ?_) (fun hg44 => ?_)
 obtain rfl : xz = true := by simpa using hg44
 refine Go2 4 182 (.bool true) 183 (Pp b78 2) <| Gq rfl (Lk 3 hH rfl rfl rfl) <| Go1 1 185 (.agg #[.bool true, .bool false, .bool xfl]) <| gl_st (Ka 2 [.bool true, .bool false, .bool xfl] [.bool true, .bool false, .bool xfl] rfl hH rfl rfl ?_)
 clear hH; intro w88 hH
 refine Dn <| sw_ret <| bkR <| thR <| retC1 rfl (RS.cellA hH 2 (by kernel_rfl) rfl rfl (by kernel_rfl) [.bool true, .bool false, .bool xfl] rfl rfl) ?_
 replace hH := hH.fr5
 replace hH := (hH.sb (slk sln)).n1
 exact ⟨by rw [outF_eq T t, if_neg (by omega), if_neg (by omega), if_neg (by omega), if_neg (by omega), if_neg (by omega), if_neg (by omega), if_neg (by omega), outHd_at hx, hxo, aloneF, if_neg (by omega), if_neg (by omega), if_neg (by omega), if_pos hk11]; first | rfl | (simp [ouV, ouC]), hH.turned⟩
 obtain rfl : xz = false := by simpa using hg44
 refine Go1 1 180 (Pp b78 1) <| Gq rfl (Lk 3 hH rfl rfl rfl) <| Go2 2 182 (.bool xq) 183 (Pp b78 2) <| Gq rfl (Lk 3 hH rfl rfl rfl) <| Go1 1 185 (.agg #[.bool xq, .bool false, .bool xfl]) <| gl_st (Ka 2 [.bool xq, .bool false, .bool xfl] [.bool xq, .bool false, .bool xfl] rfl hH rfl rfl ?_)
 clear hH; intro w89 hH
 refine Dn <| sw_ret <| bkR <| thR <| retC1 rfl (RS.cellA hH 2 (by kernel_rfl) rfl rfl (by kernel_rfl) [.bool xq, .bool false, .bool xfl] rfl rfl) ?_
 replace hH := hH.fr5
 replace hH := (hH.sb (slk sln)).n1
 exact ⟨by rw [outF_eq T t, if_neg (by omega), if_neg (by omega), if_neg (by omega), if_neg (by omega), if_neg (by omega), if_neg (by omega), if_neg (by omega), outHd_at hx, hxo, aloneF, if_neg (by omega), if_neg (by omega), if_neg (by omega), if_pos hk11]; first | rfl | (simp [ouV, ouC]), hH.turned⟩
 refine sw_cv 175 (.bool false) (by rw [hc43]) rfl ?_
 try simp only [beq_eq_false_iff_ne, ne_eq] at hc43
 have hk11 : ¬ t.kind = 11 := hc43
 refine sw_skip <| bkN <| sw_next <| sw_sr <| Go1 1 186 (Pp b78 2) <| Gq rfl (Lk 3 hH rfl rfl rfl) <| Go1 1 188 (Pp b78 0) <| Gq rfl (Lk 3 hH rfl rfl rfl) <| Go1 1 190 (.bool xz) <| gl_split 190 (b := xz) rfl (fun hg45 => ?_) (fun hg45 => ?_)
 obtain rfl : xz = true := by simpa using hg45
 refine Go1 4 194 (.agg #[.bool xfl, .bool false, .bool true]) <| gl_st (Ka 2 [.bool xfl, .bool false, .bool true] [.bool xfl, .bool false, .bool true] rfl hH rfl rfl ?_)
 clear hH; intro w90 hH
 refine Dn <| sw_ret <| retC1 rfl (RS.cellA hH 2 (by kernel_rfl) rfl rfl (by kernel_rfl) [.bool xfl, .bool false, .bool true] rfl rfl) ?_
 replace hH := hH.fr5
 replace hH := (hH.sb (slk sln)).n1
 exact ⟨by rw [outF_eq T t, if_neg (by omega), if_neg (by omega), if_neg (by omega), if_neg (by omega), if_neg (by omega), if_neg (by omega), if_neg (by omega), outHd_at hx, hxo, aloneF, if_neg (by omega), if_neg (by omega), if_neg (by omega), if_neg (by omega), if_pos (by omega)]; first | rfl | (simp [ouV, ouC]), hH.turned⟩
 obtain rfl : xz = false := by simpa using hg45
 refine Go1 1 191 (Pp b78 1) <| Gq rfl (Lk 3 hH rfl rfl rfl) <| Go1 2 194 (.agg #[.bool xfl, .bool false, .bool xq]) <| gl_st (Ka 2 [.bool xfl, .bool false, .bool xq] [.bool xfl, .bool false, .bool xq] rfl hH rfl rfl ?_)
 clear hH; intro w91 hH
 refine Dn <| sw_ret <| retC1 rfl (RS.cellA hH 2 (by kernel_rfl) rfl rfl (by kernel_rfl) [.bool xfl, .bool false, .bool xq] rfl rfl) ?_
 replace hH := hH.fr5
 replace hH := (hH.sb (slk sln)).n1
 exact ⟨by rw [outF_eq T t, if_neg (by omega), if_neg (by omega), if_neg (by omega), if_neg (by omega), if_neg (by omega), if_neg (by omega), if_neg (by omega), outHd_at hx, hxo, aloneF, if_neg (by omega), if_neg (by omega), if_neg (by omega), if_neg (by omega), if_pos (by omega)]; first | rfl | (simp [ouV, ouC]), hH.turned⟩
theorem SoOut_ct (t : Tv) : SoC t := Tv.ind SoOut_step t

end Go.Proofs.YtllfpnbhjfadiaaGreatDoor
/- Layer 8 (sound): with which rules an expression may begin: what the program's functions answer. -/
set_option maxRecDepth 100000
set_option maxHeartbeats 2000000
set_option linter.unusedVariables false
set_option linter.unusedSimpArgs false
namespace Go.Proofs.YtllfpnbhjfadiaaGreatDoor
open Go.RowKit Go.SW
abbrev fiM (m sm : Nat) (T : Tab) (S : Seen) : List Own := [.kmap m strK (vmap ouV T), .imap sm (vmap Value.bool S)]
def FiC (rs : List Rv) (A : Option Addr) (cap : Nat) (c : Zone) (t : Tv) : Prop := ∀ (m sm : Nat) (T : Tab) (S : Seen) (w : World), TvOk c t → okNd t.nd = true → Row c (.slice A rs.length cap) 10 rs.length (rowC rvC rs) → c.le (off w (blksOf (fiM m sm T S))) → Mine w (fiM m sm T S) →
  Fun Tryz.prog 112 [.agg #[.slice A rs.length cap, .map (some m)], .agg (tvC t).toArray, .map (some sm)] w fun v w' => v = .tuple #[] ∧ Turn w w' (fiM m sm T S) (fiM m sm T (firstF T (rs.map Rv.rl) t.nd S))

theorem First_step (rs : List Rv) (A : Option Addr) (cap : Nat) (c : Zone) (t : Tv) (IH : ∀ x ∈ t.subs, FiC rs A cap c x) : FiC rs A cap c t := by
 intro m sm T S w hok hnd hT hc hM
 have hpa := okNd_parts hnd
 obtain ⟨Ax, cx, hx9, hx1, hx2⟩ := hok.row.form
 have hml : maxLen ≤ 9223372036854775807 := by unfold maxLen; decide
 refine fun_of_sw Tryz.func112 rfl 39 rfl rfl ?_
 have hH := (Hp.start_mine hM).zsub hc
 refine sw_sr <| gl_st (Bx [.slice A rs.length cap, .map (some m)] rfl hH ?_)
 clear hH; intro b1 w2 hH
 refine gl_st (Bx [.int .i64 t.kind, .string (bs t.text), .int .u64 ((t.cl.a : Nat) : Int), .int .u64 ((t.cl.b : Nat) : Int), .int .u64 ((t.cl.c : Nat) : Int), .int .u64 ((t.cl.d : Nat) : Int), .slice t.A t.subs.length t.cap, .int .i64 t.pos] rfl hH ?_)
 clear hH; intro b3 w4 hH
 refine Dn <| Cu (γ := Seen) hH (fun S1 => [(2, .map (some sm)), (3, Pp b1 0), (4, Pp b3 0)]) (fun S1 w_ H_ => (firstF T (rs.map Rv.rl) t.nd S = firstFs T (rs.map Rv.rl) t.kind (Tv.nds t.subs) S1) ∧ H_ [.kmap m strK (vmap ouV T), .imap sm (vmap Value.bool S1), .blk b1 137 [.slice A rs.length cap, .map (some m)], .blk b3 41 [.int .i64 t.kind, .string (bs t.text), .int .u64 ((t.cl.a : Nat) : Int), .int .u64 ((t.cl.b : Nat) : Int), .int .u64 ((t.cl.c : Nat) : Int), .int .u64 ((t.cl.d : Nat) : Int), .slice t.A t.subs.length t.cap, .int .i64 t.pos]]) ?_ ?_
 ·
  refine sw_sr <| Go1 1 8 (Pp b3 0) <| Gq rfl (Lk 3 hH rfl rfl rfl) <| Go1 1 10 (.bool ((t.kind : Int) == (5 : Int))) <| Dn <| If rfl (fun hc1 => ?_) (fun hc1 => ?_)
  have hk5 : t.kind = 5 := hc1
  refine sw_region <| Go2 2 11 (.map (some sm)) 12 (Pp b1 0) <| Gq rfl (La 2 [.slice A rs.length cap] hH rfl rfl) <| Go1 1 14 (Pp b3 1) <| Gq rfl (Lk 3 hH rfl rfl rfl) <| gl_st (Sc rfl rfl (SFind_ct rs t.text cap A c _ hH.zin hT) ?_)
  rintro _ w5 ⟨rfl, hF6⟩
  replace hH := hH.call hF6
  refine gl_st (st_imput (kt := 3) (e := 4) (v := .bool true) 1 rfl rfl rfl (by kernel_rfl) (by kernel_rfl) hH rfl rfl ((findF t.text (rs.map Rv.rl)) : Int) rfl rfl ?_)
  clear hH; intro w7 hH
  replace hH := hH.cast (os' := [.kmap m strK (vmap ouV T), .imap sm (vmap Value.bool (putT S (findF t.text (rs.map Rv.rl)) true)), .blk b1 137 [.slice A rs.length cap, .map (some m)], .blk b3 41 [.int .i64 t.kind, .string (bs t.text), .int .u64 ((t.cl.a : Nat) : Int), .int .u64 ((t.cl.b : Nat) : Int), .int .u64 ((t.cl.c : Nat) : Int), .int .u64 ((t.cl.d : Nat) : Int), .slice t.A t.subs.length t.cap, .int .i64 t.pos]]) (by rw [kputK_vmap]; rfl)
  refine Dd <| Ce (putT S (findF t.text (rs.map Rv.rl)) true) ?_
  exact ⟨by rw [firstF_tv, if_pos hk5], hH⟩
  have hk5 : ¬ t.kind = 5 := hc1
  refine sw_skip <| Ce (S) ?_
  exact ⟨by rw [firstF_tv, if_neg hk5], hH⟩
 clear hH
 rintro S1 w8 ⟨hm1, hH⟩
 refine swk [(2, .map (some sm)), (3, Pp b1 0), (4, Pp b3 0)] <| sw_sr <| Go1 1 17 (Pp b3 6) <| Gq rfl (Lk 3 hH rfl rfl rfl) <| Gq rfl (Ln (e := 41) rfl) <| Go1 1 20 (.int .i64 0) <| Dn <| sw_block ?_
 replace hH := (hH.sb (slk (slk (slk (slk sln))))).n4
 refine Lp (γ := Nat × Seen) hH (fun (i, Q) => [(2, .map (some sm)), (3, Pp b1 0), (4, Pp b3 0), (18, .slice t.A t.subs.length t.cap), (19, Ni t.subs.length), (20, Ni i)]) (fun (i, Q) w_ H_ => (firstF T (rs.map Rv.rl) t.nd S = firstFs T (rs.map Rv.rl) t.kind (Tv.nds (t.subs.drop i)) Q) ∧ (i ≤ t.subs.length) ∧ H_ [.kmap m strK (vmap ouV T), .imap sm (vmap Value.bool Q), .blk b1 137 [.slice A rs.length cap, .map (some m)], .blk b3 41 [.int .i64 t.kind, .string (bs t.text), .int .u64 ((t.cl.a : Nat) : Int), .int .u64 ((t.cl.b : Nat) : Int), .int .u64 ((t.cl.c : Nat) : Int), .int .u64 ((t.cl.d : Nat) : Int), .slice t.A t.subs.length t.cap, .int .i64 t.pos]]) (fun (i, Q) => t.subs.length - i) (0, S1) ?_ ?_
 · exact ⟨hm1, Nat.zero_le _, hH⟩
 clear hH
 rintro ⟨i, Q⟩ w9 ⟨hm, hi, hH⟩
 refine swk [(2, .map (some sm)), (3, Pp b1 0), (4, Pp b3 0), (18, .slice t.A t.subs.length t.cap), (19, Ni t.subs.length), (20, Ni i)] <| sw_sr <| Go1 1 21 (.bool (decide ((i : Int) < ((t.subs.length : Nat) : Int)))) <| Dn <| sw_seq <| If rfl (fun hc2 => ?_) (fun hc2 => ?_)
 refine Sk <| sw_seq <| sw_block ?_
 obtain ⟨x, hx⟩ : ∃ x, t.subs[i]? = some x := ⟨_, List.getElem?_eq_getElem (by omega)⟩
 have hxm := List.mem_of_getElem? hx
 refine sw_sr ?_
 obtain ⟨p10, hi12, hp11⟩ := hok.row.idx i (by omega) (by decide)
 refine Gq rfl (Ix (e := 41) 8 rfl rfl hi12) <| Gq rfl (rd_loadZA (by kernel_rfl) hH hp11 rfl 0 rfl [.int .i64 x.kind, .string (bs x.text), .int .u64 ((x.cl.a : Nat) : Int), .int .u64 ((x.cl.b : Nat) : Int), .int .u64 ((x.cl.c : Nat) : Int), .int .u64 ((x.cl.d : Nat) : Int), .slice x.A x.subs.length x.cap, .int .i64 x.pos] (by kernel_rfl) (rowC_all tvC_len hx 0 _ rfl)) <| gl_st (Alc [.int .i64 0, .string (bs []), .int .u64 0, .int .u64 0, .int .u64 0, .int .u64 0, .slice none 0 0, .int .i64 0] rfl hH ?_)
 clear hH; intro b13 w14 hH
 refine gl_st (Ka 4 [.int .i64 x.kind, .string (bs x.text), .int .u64 ((x.cl.a : Nat) : Int), .int .u64 ((x.cl.b : Nat) : Int), .int .u64 ((x.cl.c : Nat) : Int), .int .u64 ((x.cl.d : Nat) : Int), .slice x.A x.subs.length x.cap, .int .i64 x.pos] [.int .i64 x.kind, .string (bs x.text), .int .u64 ((x.cl.a : Nat) : Int), .int .u64 ((x.cl.b : Nat) : Int), .int .u64 ((x.cl.c : Nat) : Int), .int .u64 ((x.cl.d : Nat) : Int), .slice x.A x.subs.length x.cap, .int .i64 x.pos] rfl hH rfl rfl ?_)
 clear hH; intro w15 hH
 refine Dn <| sw_sr <| Gq rfl (La 2 [.slice A rs.length cap, .map (some m)] hH rfl rfl) <| Gq rfl (La 4 [.int .i64 x.kind, .string (bs x.text), .int .u64 ((x.cl.a : Nat) : Int), .int .u64 ((x.cl.b : Nat) : Int), .int .u64 ((x.cl.c : Nat) : Int), .int .u64 ((x.cl.d : Nat) : Int), .slice x.A x.subs.length x.cap, .int .i64 x.pos] hH rfl rfl) <| Go1 1 26 (.map (some sm)) ?_
 replace hH : Hp w w15 _ _ ([_, _] ++ [_, _, _]) := hH
 refine gl_st (Sc rfl rfl (IH x hxm m sm T Q _ (hok.subs x hxm) (hpa.2 x hxm) hT hH.zoff hH.mine) ?_)
 rintro _ w16 ⟨rfl, hF17⟩
 replace hH := hH.turns hF17
 replace hH := hH.n5
 refine Dn <| sw_sr <| Go1 1 28 (Pp b3 0) <| Gq rfl (Lk 1 hH rfl rfl rfl) <| Go1 2 31 (.bool ((t.kind : Int) == (6 : Int))) <| Gi 31 rfl (fun hg3 => ?_) (fun hg3 => ?_)
 have hk6 : t.kind = 6 := hg3
 refine Gq rfl (La 0 [.slice A rs.length cap, .map (some m)] hH rfl rfl) <| Gq rfl (La 2 [.int .i64 x.kind, .string (bs x.text), .int .u64 ((x.cl.a : Nat) : Int), .int .u64 ((x.cl.b : Nat) : Int), .int .u64 ((x.cl.c : Nat) : Int), .int .u64 ((x.cl.d : Nat) : Int), .slice x.A x.subs.length x.cap, .int .i64 x.pos] hH rfl rfl) ?_
 replace hH : Hp w w16 _ _ ([_] ++ [_, _, _, _]) := hH.fr4
 refine gl_st (Sc rfl rfl (SoOut_ct x A rs.length cap m T c _ (hok.subs x hxm) (hpa.2 x hxm) hH.zoff hH.mine) ?_)
 rintro _ w18 ⟨rfl, hF19⟩
 replace hH := hH.turns hF19
 replace hH := hH.n5
 refine Go1 3 37 (.bool (!((outF T x.nd).z))) <| Dn <| If rfl (fun hc4 => ?_) (fun hc4 => ?_)
 have hz : (outF T x.nd).z = false := hc4
 refine sw_exit <| bkX rfl <| thX <| thX <| bkH <| end0 rfl ?_
 replace hH := hH.fr4.fr5
 replace hH := (hH.sb (slk (slk sln))).n2
 exact ⟨rfl, by rw [hm, firstFs_at hx, if_pos ⟨hk6, hz⟩]; exact hH.turned⟩
 have hz : (outF T x.nd).z = true := hc4
 refine sw_skip <| bkN <| sw_next <| sw_region <| Gw0 1 38 ((i : Int) + 1) ((i + 1 : Nat) : Int) <| Go1 1 20 (Ni (i + 1)) <| Dd <| rnd_end (g := (i, Q)) (i + 1, firstF T (rs.map Rv.rl) x.nd Q) (by kernel_rfl) ?_ ?_
 replace hH := hH.fr2.fr2.fr4.fr5
 replace hH := (hH.sb (slk (slk (slk (slk sln))))).n4
 · exact ⟨by rw [hm, firstFs_at hx, if_neg (fun h => by rw [hz] at h; cases h.2)], by omega, hH⟩
 · show t.subs.length - (i + 1) < t.subs.length - i; omega
 have hk6 : ¬ t.kind = 6 := hg3
 refine Go1 6 37 (.bool false) <| Dn <| Iz <| sw_skip <| bkN <| sw_next <| sw_region <| Gw0 1 38 ((i : Int) + 1) ((i + 1 : Nat) : Int) <| Go1 1 20 (Ni (i + 1)) <| Dd <| rnd_end (g := (i, Q)) (i + 1, firstF T (rs.map Rv.rl) x.nd Q) (by kernel_rfl) ?_ ?_
 replace hH := hH.fr2.fr2.fr5.fr5
 replace hH := (hH.sb (slk (slk (slk (slk sln))))).n4
 · exact ⟨by rw [hm, firstFs_at hx, if_neg (fun h => hk6 h.1)], by omega, hH⟩
 · show t.subs.length - (i + 1) < t.subs.length - i; omega
 refine sw_exit <| thX <| thX <| bkH <| end0 rfl ?_
 replace hH := (hH.sb (slk (slk sln))).n2
 exact ⟨rfl, by rw [hm, List.drop_eq_nil_of_le (by omega)]; exact hH.turned⟩
theorem First_ct (rs : List Rv) (A : Option Addr) (cap : Nat) (c : Zone) (t : Tv) : FiC rs A cap c t := Tv.ind (First_step rs A cap c) t

end Go.Proofs.YtllfpnbhjfadiaaGreatDoor
/- Layer 8 (sound): with which rules each one begins: what the program's function answers. -/
set_option maxRecDepth 100000
set_option maxHeartbeats 2000000
set_option linter.unusedVariables false
set_option linter.unusedSimpArgs false
namespace Go.Proofs.YtllfpnbhjfadiaaGreatDoor
open Go.RowKit Go.SW
/-- A row of numbers, and where it lies. -/
structure Iv where
  l : List Int
  A : Option Addr
  cap : Nat
def ivC (x : Iv) : List Value := [.slice x.A x.l.length x.cap]
theorem ivC_len (x : Iv) : (ivC x).length = 1 := rfl
def IvsOk (c : Zone) (bl : List Iv) : Prop := ∀ x ∈ bl, Row c (.slice x.A x.l.length x.cap) 1 x.l.length (x.l.map encZ)
theorem IvsOk.mono {c c' : Zone} {bl : List Iv} (h : IvsOk c bl) (hc : c.le c') : IvsOk c' bl := fun x hx => (h x hx).mono hc
theorem IvsOk.add {c : Zone} {bl : List Iv} {x : Iv} (h : IvsOk c bl) (hx : Row c (.slice x.A x.l.length x.cap) 1 x.l.length (x.l.map encZ)) : IvsOk c (bl ++ [x]) := fun y hy => by
  rcases List.mem_append.1 hy with hy | hy
  · exact h y hy
  · obtain rfl := List.mem_singleton.1 hy; exact hx
theorem Rv.size_mem : ∀ {rs : List Rv} {r : Rv}, r ∈ rs → r.body.size + 1 ≤ Rv.sizes rs
  | a :: rs, r, h => by
    rw [Rv.sizes]
    rcases List.mem_cons.1 h with rfl | h
    · omega
    · have := Rv.size_mem h; omega
theorem vmap_keys {β : Type} (f : β → Value) (S : List (Int × β)) : (vmap f S).map (·.1) = S.map (·.1) := by unfold vmap; rw [List.map_map]; rfl
theorem SortedB_ct (b m : Nat) (S : Seen) (w : World) (hb : w.cell? ⟨b, 0, none⟩ = some (.map (some m))) (hm : (Own.imap m (vmap Value.bool S)).at w) (hk : InK S) (hn : S.length ≤ 17592186044416) :
    Fun Tryz.prog 113 [.func (.func 148) #[] #[.pointer (some ⟨b, 0, none⟩)]] w fun v w' =>
      ∃ v1, v = v1 ∧ Fresh w w' [.row v1 3 1 (sortI (S.map (·.1))).length ((sortI (S.map (·.1))).map encZ)] := by
  have h := SortedKeysI_ct b m (vmap Value.bool S) w hb hm (fun p hp => by obtain ⟨q, hq, rfl⟩ := List.mem_map.1 hp; exact hk q hq) (by unfold vmap; rw [List.length_map]; exact hn)
  rw [vmap_keys] at h
  exact h
theorem begins_take {T : Tab} {rl : List Rl} {rs : List Rv} {i : Nat} {r : Rv} (h : rs[i]? = some r) : ((rs.take (i + 1)).map Rv.rl).map (fun r => beginOf T rl r.body) = ((rs.take i).map Rv.rl).map (fun r => beginOf T rl r.body) ++ [beginOf T rl r.body.nd] := by
  rw [List.take_add_one, h]; simp [Rv.rl]

theorem UBegins_ct (rs : List Rv) (cap : Nat) (A : Option Addr) (m : Nat) (T : Tab) (c : Zone) (w : World) (hc : c.le (off w (blksOf [.kmap m strK (vmap ouV T)]))) (hM : Mine w [.kmap m strK (vmap ouV T)]) (hT : Row c (.slice A rs.length cap) 10 rs.length (rowC rvC rs)) (hok : RvsOk c rs) (hall : ∀ r ∈ rs, okNd r.body.nd = true) (h64 : rs.length ≤ 64) (hb : 2400 * Rv.sizes rs ≤ 70368744177664) :
    Fun Tryz.prog 67 [.agg #[.slice A rs.length cap, .map (some m)]] w fun v w' => ∃ v1 bl pl, v = v1 ∧ bl.map Iv.l = beginsF T (rs.map Rv.rl) ∧ IvsOk (pz pl) bl ∧ Turn w w' [.kmap m strK (vmap ouV T)] [.kmap m strK (vmap ouV T), .row v1 28 1 bl.length (rowC ivC bl), plO pl] := by
 obtain ⟨Ax, cx, hx9, hx1, hx2⟩ := hT.form
 cases hx9
 have hml : maxLen ≤ 9223372036854775807 := by unfold maxLen; decide
 refine fun_of_sw Tryz.func67 rfl 29 rfl rfl ?_
 have hH := (Hp.start_mine hM).zsub hc
 refine sw_sr <| gl_st (Bx [.slice A rs.length cap, .map (some m)] rfl hH ?_)
 clear hH; intro b1 w2 hH
 refine Go0 1 <| Dn <| sw_sr <| Go1 1 3 (.slice none 0 0) <| Dn <| sw_seq <| sw_sr <| Go1 2 8 (Pp b1 0) <| Gq rfl (Lk 1 hH rfl rfl rfl) <| Gq rfl (Ln (e := 43) rfl) <| Go1 1 11 (.int .i64 0) <| Dn <| sw_block ?_
 replace hH := hH.pool
 replace hH := hH.nilRow 28 1
 replace hH := (hH.sb (slk (slk (slk (slk sln))))).n4
 refine Lp (γ := Nat × List Iv × Pl × Value) hH (fun (i, bl, pN, xv) => [(1, Pp b1 0), (3, xv), (9, .slice A rs.length cap), (10, Ni rs.length), (11, Ni i)]) (fun (i, bl, pN, xv) w_ H_ => (bl.map Iv.l = ((rs.take i).map Rv.rl).map (fun r => beginOf T (rs.map Rv.rl) r.body)) ∧ (bl.length = i) ∧ (IvsOk (pz pN) bl) ∧ (i ≤ rs.length) ∧ H_ [.kmap m strK (vmap ouV T), .blk b1 137 [.slice A rs.length cap, .map (some m)], plO pN, .row xv 28 1 bl.length (rowC ivC bl)]) (fun (i, bl, pN, xv) => rs.length - i) (0, [], [], .slice none 0 0) ?_ ?_
 · exact ⟨rfl, rfl, (fun x hx => by cases hx), Nat.zero_le _, hH⟩
 clear hH
 rintro ⟨i, bl, pN, xv⟩ w3 ⟨hbl, hbi, hiv, hi, hH⟩
 refine swk [(1, Pp b1 0), (3, xv), (9, .slice A rs.length cap), (10, Ni rs.length), (11, Ni i)] <| sw_sr <| Go1 1 12 (.bool (decide ((i : Int) < ((rs.length : Nat) : Int)))) <| Dn <| sw_seq <| If rfl (fun hc1 => ?_) (fun hc1 => ?_)
 refine Sk <| sw_seq <| sw_block ?_
 obtain ⟨r, hx⟩ : ∃ r, rs[i]? = some r := ⟨_, List.getElem?_eq_getElem (by omega)⟩
 have hxm := List.mem_of_getElem? hx
 have hrb := hok r hxm
 have hfo := first_ok r.body.nd T (rs.map Rv.rl) [] (by rw [List.length_map]; exact h64) (fun p hp => by cases hp)
 refine sw_sr ?_
 obtain ⟨p4, hi6, hp5⟩ := hT.idx i (by omega) (by decide)
 refine Gq rfl (Ix (e := 43) 10 rfl rfl hi6) <| Gq rfl (rd_loadZA (by kernel_rfl) hH hp5 rfl 0 rfl [.string (bs r.name), .int .i64 r.body.kind, .string (bs r.body.text), .int .u64 ((r.body.cl.a : Nat) : Int), .int .u64 ((r.body.cl.b : Nat) : Int), .int .u64 ((r.body.cl.c : Nat) : Int), .int .u64 ((r.body.cl.d : Nat) : Int), .slice r.body.A r.body.subs.length r.body.cap, .int .i64 r.body.pos, .int .i64 r.pos] (by kernel_rfl) (rowC_all rvC_len hx 0 _ rfl)) <| gl_st (Alc [.string (bs []), .int .i64 0, .string (bs []), .int .u64 0, .int .u64 0, .int .u64 0, .int .u64 0, .slice none 0 0, .int .i64 0, .int .i64 0] rfl hH ?_)
 clear hH; intro b7 w8 hH
 refine gl_st (Ka 4 [.string (bs r.name), .int .i64 r.body.kind, .string (bs r.body.text), .int .u64 ((r.body.cl.a : Nat) : Int), .int .u64 ((r.body.cl.b : Nat) : Int), .int .u64 ((r.body.cl.c : Nat) : Int), .int .u64 ((r.body.cl.d : Nat) : Int), .slice r.body.A r.body.subs.length r.body.cap, .int .i64 r.body.pos, .int .i64 r.pos] [.string (bs r.name), .int .i64 r.body.kind, .string (bs r.body.text), .int .u64 ((r.body.cl.a : Nat) : Int), .int .u64 ((r.body.cl.b : Nat) : Int), .int .u64 ((r.body.cl.c : Nat) : Int), .int .u64 ((r.body.cl.d : Nat) : Int), .slice r.body.A r.body.subs.length r.body.cap, .int .i64 r.body.pos, .int .i64 r.pos] rfl hH rfl rfl ?_)
 clear hH; intro w9 hH
 refine Dn <| sw_sr <| gl_st (st_makeIm rfl rfl rfl hH ?_)
 clear hH; intro m10 w11 hH
 refine Go1 1 6 (.map (some m10)) <| Dn <| sw_sr <| Gq rfl (La 1 [.slice A rs.length cap, .map (some m)] hH rfl rfl) <| Go1 1 17 (Pp b7 1) <| Gq rfl (La 4 [.int .i64 r.body.kind, .string (bs r.body.text), .int .u64 ((r.body.cl.a : Nat) : Int), .int .u64 ((r.body.cl.b : Nat) : Int), .int .u64 ((r.body.cl.c : Nat) : Int), .int .u64 ((r.body.cl.d : Nat) : Int), .slice r.body.A r.body.subs.length r.body.cap, .int .i64 r.body.pos] hH rfl rfl) <| Go1 1 19 (.map (some m10)) ?_
 replace hH : Hp w w11 _ _ ([_, _] ++ [_, _, _, _]) := hH.fr6.fr2
 refine gl_st (Sc rfl rfl (First_ct rs A cap c r.body m m10 T [] _ hrb.body (hall r hxm) hT hH.zoff hH.mine) ?_)
 rintro _ w12 ⟨rfl, hF13⟩
 replace hH := hH.turns hF13
 replace hH := hH.n6
 refine Dn <| sw_region <| Go2 2 21 xv 22 (.map (some m10)) <| gl_st (Sc rfl rfl (MapsKeysI_ct m10 _) ?_)
 rintro _ w15 ⟨b14, rfl, hF16⟩
 replace hH := hH.call hF16
 refine gl_st (Sc rfl rfl (SortedB_ct b14 m10 (firstF T (rs.map Rv.rl) r.body.nd []) _ (hH.blk_cell 6 rfl rfl) (hH.own _ (List.mem_of_getElem? (i := 5) rfl)) hfo.1 (by have h9 := hfo.2; have h8 := Rv.size_mem hxm; rw [Tv.nd_size] at h9; simp only [List.length_nil] at h9; omega)) ?_)
 rintro _ w18 ⟨v17, rfl, hF19⟩
 replace hH := hH.call hF19
 obtain ⟨A20, c21, rfl, hl22, hm23⟩ := hH.row_form 7 rfl
 replace hH := hH.fr2.fr8
 obtain ⟨pl24, hp25, hH⟩ := pl_add hH
 refine gl_st (st_buildS (e := 28) (zv := .slice none 0 0) (m := 1) (bytes := 24) rfl rfl rfl (by kernel_rfl) (by kernel_rfl) rfl (cs := [.slice A20 ((beginOf T (rs.map Rv.rl) r.body.nd).length) c21]) (by kernel_rfl) rfl hH ?_)
 clear hH; intro b26 w27 hH
 refine gl_st (Apd (e := 28) (.slice none 0 0) 1 24 2 rfl hH rfl rfl rfl (hH.row_reads 7 rfl) (by simp [Value.oneCell']) (by unfold maxLen; omega) (by omega) ?_)
 clear hH; intro v28 w29 hH
 replace hH := hH.row_eq 2 (l' := (bl ++ [(⟨(beginOf T (rs.map Rv.rl) r.body.nd), A20, c21⟩ : Iv)]).length) (xs' := rowC ivC (bl ++ [(⟨(beginOf T (rs.map Rv.rl) r.body.nd), A20, c21⟩ : Iv)])) rfl (by simp) (by rw [← rowC_app, rowC_one]; rfl)
 obtain ⟨A30, c31, rfl, hl32, hm33⟩ := hH.row_form 2 rfl
 refine Go1 1 3 (.slice A30 ((bl ++ [(⟨(beginOf T (rs.map Rv.rl) r.body.nd), A20, c21⟩ : Iv)]).length) c31) <| Dd <| bkN <| sw_next <| sw_region <| Gw0 1 27 ((i : Int) + 1) ((i + 1 : Nat) : Int) <| Go1 1 11 (Ni (i + 1)) <| Dd <| rnd_end (g := (i, bl, pN, xv)) (i + 1, bl ++ [(⟨(beginOf T (rs.map Rv.rl) r.body.nd), A20, c21⟩ : Iv)], (pN ++ pl24), (.slice A30 ((bl ++ [(⟨(beginOf T (rs.map Rv.rl) r.body.nd), A20, c21⟩ : Iv)]).length) c31)) (by kernel_rfl) ?_ ?_
 replace hH := hH.fr3.fr2.fr3.fr5
 replace hH := (hH.sb (slk (slk (slk (slk sln))))).n4
 · exact ⟨by rw [List.map_append, hbl, begins_take hx]; rfl, by rw [List.length_append, List.length_singleton]; omega, (hiv.mono (pz_app _ _)).add hp25, by omega, hH⟩
 · show rs.length - (i + 1) < rs.length - i; omega
 refine sw_exit <| thX <| thX <| bkH <| sw_next <| sw_sr <| Go1 2 2 xv <| Dn <| Rt1 rfl rfl ?_
 replace hH := hH.fr3.fr4.fr3
 replace hH := (hH.sb (slk (slk (slk sln)))).n3
 exact ⟨xv, bl, pN, rfl, by rw [hbl, show i = rs.length from by omega, List.take_length]; rfl, hiv, hH.turned⟩
end Go.Proofs.YtllfpnbhjfadiaaGreatDoor
/- Layer 8 (sound): coming back: plain mathematics of the walk through what rules begin with. -/
set_option linter.unusedVariables false
namespace Go.Proofs.YtllfpnbhjfadiaaGreatDoor
open Go.RowKit Go.SW
def seenB (S : Seen) (q : Int) : Bool := (getT S q).getD false
def Sle (S S' : Seen) : Prop := ∀ q, seenB S q = true → seenB S' q = true
theorem Sle.refl (S : Seen) : Sle S S := fun _ h => h
theorem Sle.trans {a b c : Seen} (h : Sle a b) (k : Sle b c) : Sle a c := fun q e => k q (h q e)
theorem seen_put (S : Seen) (k q : Int) : seenB (putT S k true) q = (decide (k = q) || seenB S q) := by
  unfold seenB
  rw [getT_put]
  by_cases h : k = q
  · rw [if_pos h]; simp [h]
  · rw [if_neg h]; simp [h]
theorem Sle.put (S : Seen) (k : Int) : Sle S (putT S k true) := fun q h => by rw [seen_put, h, Bool.or_true]
theorem any_le {p : Seen → Int → Bool × Seen} (h : ∀ S q, Sle S (p S q).2) : ∀ (l : List Int) (S : Seen), Sle S (anyS p S l).2
  | [], S => Sle.refl S
  | x :: l, S => by
    rw [anyS]
    split
    · exact h S x
    · exact (h S x).trans (any_le h l _)
theorem step_le {B : List (List Int)} {fm : Int} {v : Int → Seen → Bool × Seen} (h : ∀ q S, Sle S (v q S).2) (S : Seen) (q : Int) : Sle S (stepP B fm v S q).2 := by
  unfold stepP
  split
  · exact Sle.refl S
  split
  · exact Sle.put S q
  · exact (Sle.put S q).trans (h q _)
theorem visit_le (B : List (List Int)) (fm : Int) : ∀ (k : Nat) (i : Int) (S : Seen), Sle S (visitF B fm k i S).2
  | 0, i, S => Sle.refl S
  | k + 1, i, S => by
    rw [visitF]
    exact any_le (fun S q => step_le (visit_le B fm k) S q) _ S
def unseen (n : Nat) (S : Seen) : Nat := (List.range n).countP fun j : Nat => !(seenB S (j : Int))
theorem unseen_le {n : Nat} {S S' : Seen} (h : Sle S S') : unseen n S' ≤ unseen n S := by
  unfold unseen
  refine List.countP_mono_left fun j _ hj => ?_
  simp only [Bool.not_eq_true'] at hj ⊢
  cases e : seenB S (j : Int)
  · rfl
  · rw [h _ e] at hj; cases hj
theorem countP_lt {α : Type} {p q : α → Bool} {x : α} : ∀ {l : List α}, x ∈ l → (∀ y ∈ l, p y = true → q y = true) → p x = false → q x = true → l.countP p < l.countP q
  | a :: l, hx, h, h1, h2 => by
    have hl : l.countP p ≤ l.countP q := List.countP_mono_left fun y hy => h y (List.mem_cons_of_mem a hy)
    rcases List.mem_cons.1 hx with rfl | hx
    · rw [List.countP_cons_of_neg (by rw [h1]; decide), List.countP_cons_of_pos h2]
      omega
    · have := countP_lt hx (fun y hy => h y (List.mem_cons_of_mem a hy)) h1 h2
      have ha := h a (List.mem_cons_self ..)
      rw [List.countP_cons, List.countP_cons]
      split
      · rename_i e; rw [if_pos (ha e)]; omega
      · split <;> omega
theorem unseen_put {n : Nat} {S : Seen} {q : Nat} (hq : q < n) (h : seenB S (q : Int) = false) : unseen n (putT S (q : Int) true) + 1 ≤ unseen n S := by
  refine countP_lt (x := q) (List.mem_range.2 hq) (fun j _ hj => ?_) ?_ ?_
  · simp only [Bool.not_eq_true'] at hj ⊢
    rw [seen_put, Bool.or_eq_false_iff] at hj
    exact hj.2
  · rw [seen_put]; simp
  · rw [h]; rfl
theorem unseen_nil (n : Nat) : unseen n [] ≤ n := by
  unfold unseen
  exact Nat.le_trans List.countP_le_length (by rw [List.length_range]; exact Nat.le_refl _)
theorem visit_at {bl : List Iv} {fm : Int} {k i : Nat} {iv : Iv} (h : bl[i]? = some iv) (S : Seen) : visitF (bl.map Iv.l) fm (k + 1) (i : Int) S = anyS (stepP (bl.map Iv.l) fm (visitF (bl.map Iv.l) fm k)) S iv.l := by
  rw [visitF, Int.toNat_natCast]
  have : (bl.map Iv.l).getD i [] = iv.l := by rw [List.getD_eq_getElem?_getD, List.getElem?_map, h]; rfl
  rw [this]
end Go.Proofs.YtllfpnbhjfadiaaGreatDoor
/- Layer 8 (sound): where all names mean rules, what rules begin with are rules; what Check answers. Plain mathematics. -/
set_option linter.unusedVariables false
namespace Go.Proofs.YtllfpnbhjfadiaaGreatDoor
open Go.RowKit Go.SW
theorem places_mem {t : List UInt8} : ∀ {rs : List Rl} {i : Nat} {m : Names}, (getT (placesF i rs m) t).isSome = true → (getT m t).isSome = true ∨ ∃ r ∈ rs, r.name = t
  | [], i, m, h => .inl h
  | r :: rs, i, m, h => by
    rw [placesF] at h
    rcases places_mem h with h1 | ⟨q, hq, e⟩
    · split at h1
      · exact .inl h1
      · rw [getT_put] at h1
        by_cases e : r.name = t
        · exact .inr ⟨r, List.mem_cons_self .., e⟩
        · rw [if_neg e] at h1; exact .inl h1
    · exact .inr ⟨q, List.mem_cons_of_mem r hq, e⟩
theorem findF_known {t : List UInt8} {rs : List Rl} (h : ∃ r ∈ rs, r.name = t) : 0 ≤ findF t rs ∧ findF t rs < rs.length := by
  have ha : (rs.any fun r => r.name == t) = true := by
    obtain ⟨r, hr, e⟩ := h
    exact List.any_eq_true.2 ⟨r, hr, by rw [e]; exact beq_self_eq_true t⟩
  unfold findF
  rw [if_pos ha]
  have := List.findIdx_lt_length_of_exists (p := fun r : Rl => r.name == t) (xs := rs) (by simpa using ha)
  omega
def InN (N : Nat) (S : Seen) : Prop := ∀ p ∈ S, 0 ≤ p.1 ∧ p.1 < N
def KnowN (rs : List Rl) (n : Nd) : Prop := ∀ (T : Tab) (S : Seen) (st : Int), (refsF (knownP (placesF 0 rs [])) n st).1 = true → InN rs.length S → InN rs.length (firstF T rs n S)
theorem refs_cons {m : Names} {x : Nd} {s : List Nd} {st : Int} (h : (refsFs (knownP m) (x :: s) st).1 = true) : (refsF (knownP m) x st).1 = true ∧ (refsFs (knownP m) s (refsF (knownP m) x st).2).1 = true := by
  rw [refsFs] at h
  split at h
  · rename_i h1; exact ⟨h1, h⟩
  · cases h
theorem know_fs {rs : List Rl} {T : Tab} {k : Int} : ∀ (s : List Nd) (S : Seen) (st : Int), (∀ x ∈ s, KnowN rs x) → (refsFs (knownP (placesF 0 rs [])) s st).1 = true → InN rs.length S → InN rs.length (firstFs T rs k s S)
  | [], S, st, _, _, hS => by rw [firstFs]; exact hS
  | x :: s, S, st, H, h, hS => by
    obtain ⟨h1, h2⟩ := refs_cons h
    have h3 := H x (List.mem_cons_self ..) T S st h1 hS
    rw [firstFs]
    split
    · exact h3
    · exact know_fs s _ _ (fun y hy => H y (List.mem_cons_of_mem x hy)) h2 h3
theorem know_mk {rs : List Rl} {k : Int} {t : List UInt8} {c : Cl} {s : List Nd} {p : Int} (H : ∀ x ∈ s, KnowN rs x) : KnowN rs (.mk k t c s p) := by
  intro T S st h hS
  rw [refsF] at h
  rw [firstF]
  by_cases hk : k = 5
  · rw [if_pos hk] at h ⊢
    split at h
    · rename_i h1
      have h1 : (getT (placesF 0 rs []) t).isSome = true := h1
      refine know_fs s _ _ H h fun q hq => ?_
      rcases putT_mem hq with rfl | hq
      · refine findF_known ?_
        rcases places_mem h1 with h2 | h2
        · cases h2
        · exact h2
      · exact hS q hq
    · cases h
  · rw [if_neg hk] at h ⊢
    exact know_fs s _ _ H h hS
theorem know_nd (rs : List Rl) (n : Nd) : KnowN rs n := by
  suffices ∀ N, ∀ n : Nd, n.size ≤ N → KnowN rs n from this _ n (Nat.le_refl _)
  intro N
  induction N with
  | zero => intro n hn; cases n; rw [Nd.size] at hn; omega
  | succ N ih =>
    intro n hn
    cases n with
    | mk k t c s p =>
      rw [Nd.size] at hn
      exact know_mk fun x hx => ih x (by have := Nd.size_mem hx; omega)
theorem names_nil {m : Names} : ∀ {rs : List Rl}, (namesF m rs).isNil = true → ∀ r ∈ rs, (refsF (knownP m) r.body 0).1 = true
  | a :: rs, h, r, hr => by
    rw [namesF] at h
    split at h
    · rename_i h1
      rcases List.mem_cons.1 hr with rfl | hr
      · exact h1
      · exact names_nil h r hr
    · cases h
theorem scope_names {rs : List Rl} (h : (scopeF rs).isNil = true) : (namesF (placesF 0 rs []) rs).isNil = true := by
  obtain ⟨h1, h2⟩ := scope_ok h
  rw [sc_nm h1 h2] at h
  exact h
theorem begins_in {rs : List Rl} (h : (scopeF rs).isNil = true) (T : Tab) : ∀ l ∈ beginsF T rs, ∀ q ∈ l, 0 ≤ q ∧ q < rs.length := by
  intro l hl q hq
  obtain ⟨r, hr, rfl⟩ := List.mem_map.1 hl
  unfold beginOf sortI at hq
  rw [List.mem_mergeSort] at hq
  obtain ⟨p, hp, rfl⟩ := List.mem_map.1 hq
  exact know_nd rs r.body T [] 0 (names_nil (scope_names h) r hr) (fun p hp => by cases hp) p hp
theorem begins_len (T : Tab) (rs : List Rl) : (beginsF T rs).length = rs.length := by unfold beginsF; rw [List.length_map]
theorem snd_scope {rs : List Rl} (h : (scopeF rs).isNil = false) : soundF rs = scopeF rs := by unfold soundF; rw [h]; rfl
theorem snd_loop {rs : List Rl} {c : Nat} {a : Int} (h : (scopeF rs).isNil = true) (hl : loopsF (lookT rs) rs = .flt c a) : soundF rs = .flt c a := by unfold soundF; rw [if_pos h, hl]; rfl
theorem snd_left {rs : List Rl} (h : (scopeF rs).isNil = true) (hl : loopsF (lookT rs) rs = .nil) : soundF rs = leftsF (beginsF (lookT rs) rs) 0 rs := by unfold soundF; rw [if_pos h, hl]; rfl
theorem Hp.frozen2 {w0 w : World} {z : Zone} {F : List Nat} {os : List Own} {v : Value} {e : TypeId} {m n : Nat} {xs : List Value} {pl : Pl} (h : Hp w0 w z F (.row v e m n xs :: plO pl :: os)) : ∃ c, z.le c ∧ (pz pl).le c ∧ Row c v m n xs ∧ Hp w0 w c F os := by
  have hp : Hp w0 w z F (os ++ [.row v e m n xs, plO pl]) := h.perm (List.perm_append_comm (l₁ := [.row v e m n xs, plO pl]))
  refine ⟨off w (blksOf os), hp.zoff, ?_, ?_, h.freeze ((List.sublist_cons_self _ _).trans (List.sublist_cons_self _ _))⟩
  · exact pz_off hp 1 rfl
  · have hr : w.ownsRow 0 e m v n xs := h.own _ List.mem_cons_self
    rcases hr.2 with ⟨rfl, rfl⟩ | ⟨g, cap, cur, rfl, hb, hg, hn, hm, hs, ht⟩
    · have : xs = [] := List.eq_nil_of_length_eq_zero (by simpa using hr.1)
      subst this
      exact Row.nil _ _
    · have hnot : g ∉ blksOf os := fun hk => (List.nodup_append.1 (show ([g] ++ blksOf (plO pl :: os)).Nodup from h.nodup)).2.2 g (List.mem_singleton.2 rfl) g (by
        obtain ⟨o, ho, hgo⟩ := List.mem_flatMap.1 hk
        exact List.mem_flatMap.2 ⟨o, List.mem_cons_of_mem _ ho, hgo⟩) rfl
      refine (Row.of_own hr).on fun a ha u hu => ?_
      unfold off
      rw [if_neg (by rw [ha]; exact hnot)]
      exact hu
end Go.Proofs.YtllfpnbhjfadiaaGreatDoor
/- Layer 8 (sound): through a tree until a closure says no, whatever blocks it makes: what the program's functions answer. -/
set_option maxRecDepth 100000
set_option maxHeartbeats 2000000
set_option linter.unusedVariables false
set_option linter.unusedSimpArgs false
namespace Go.Proofs.YtllfpnbhjfadiaaGreatDoor
open Go.RowKit Go.SW
def SaysG {σ γ : Type} (f : FuncId) (cl : List Value) (c : Zone) (M : σ → γ → Own) (p : σ → Tv → Bool × σ) (x : Tv) : Prop :=
  ∀ (s : σ) (g : γ) (w' : World), c.le (off w' (blksOf [M s g])) → Mine w' [M s g] → Fun Tryz.prog f (.agg (tvC x).toArray :: cl) w' fun v w2 => ∃ g', v = .bool (p s x).1 ∧ Turn w' w2 [M s g] [M (p s x).2 g']

theorem IdxG_ct {σ γ : Type} (f : FuncId) (cl : List Value) (M : σ → γ → Own) (p : σ → Tv → Bool × σ) (s0 : σ) (g0 : γ) (cap : Nat) (A : Option Addr) (ts : List Tv) (c : Zone) (w : World) (hcal : callable Tryz.prog f = true) (hc : c.le (off w (blksOf [M s0 g0]))) (hM : Mine w [M s0 g0]) (hT : Row c (.slice A ts.length cap) 8 ts.length (rowC tvC ts)) (hf : ∀ x ∈ ts, SaysG f cl c M p x) :
    Fun Tryz.prog 145 [.slice A ts.length cap, .func (.func f) #[] cl.toArray] w fun v w' => ∃ g', v = .int .i64 (idxS p 0 s0 ts).1 ∧ Turn w w' [M s0 g0] [M (idxS p 0 s0 ts).2 g'] := by
 obtain ⟨Ax, cx, hx9, hx1, hx2⟩ := hT.form
 cases hx9
 have hml : maxLen ≤ 9223372036854775807 := by unfold maxLen; decide
 refine fun_of_sw Tryz.func145 rfl 19 rfl rfl ?_
 have hH := (Hp.start_mine hM).zsub hc
 refine sw_sr <| Go0 1 <| Dn <| sw_seq <| sw_sr <| Go1 1 6 (.slice A ts.length cap) <| Gq rfl (Ln (e := 41) rfl) <| Go1 1 8 (.int .i64 0) <| Dn <| sw_block <| Lp (γ := Nat × σ × γ) hH (fun (i, s, g) => [(0, .slice A ts.length cap), (1, .func (.func f) #[] cl.toArray), (7, Ni ts.length), (8, Ni i)]) (fun (i, s, g) w_ H_ => (idxS p 0 s0 ts = idxS p i s (ts.drop i)) ∧ (i ≤ ts.length) ∧ H_ [M s g]) (fun (i, s, g) => ts.length - i) (0, s0, g0) ?_ ?_
 · exact ⟨rfl, Nat.zero_le _, hH⟩
 clear hH
 rintro ⟨i, s, g⟩ w1 ⟨hm, hi, hH⟩
 refine swk [(0, .slice A ts.length cap), (1, .func (.func f) #[] cl.toArray), (7, Ni ts.length), (8, Ni i)] <| sw_sr <| Go1 1 9 (.bool (decide ((i : Int) < ((ts.length : Nat) : Int)))) <| Dn <| sw_seq <| If rfl (fun hc1 => ?_) (fun hc1 => ?_)
 refine Sk <| sw_seq <| sw_block <| sw_sr <| Go1 2 5 (Ni i) <| Dn ?_
 obtain ⟨x, hx⟩ : ∃ x, ts[i]? = some x := ⟨_, List.getElem?_eq_getElem (by omega)⟩
 refine sw_sr ?_
 obtain ⟨p2, hi4, hp3⟩ := hT.idx i (by omega) (by decide)
 refine Go3 3 11 (.func (.func f) #[] cl.toArray) 12 (.slice A ts.length cap) 13 (Ni i) <| Gq rfl (Ix (e := 41) 8 rfl rfl hi4) <| Gq rfl (rd_loadZA (by kernel_rfl) hH hp3 rfl 0 rfl [.int .i64 x.kind, .string (bs x.text), .int .u64 ((x.cl.a : Nat) : Int), .int .u64 ((x.cl.b : Nat) : Int), .int .u64 ((x.cl.c : Nat) : Int), .int .u64 ((x.cl.d : Nat) : Int), .slice x.A x.subs.length x.cap, .int .i64 x.pos] (by kernel_rfl) (rowC_all tvC_len hx 0 _ rfl)) ?_
 replace hH : Hp w w1 _ _ ([_] ++ []) := hH
 refine gl_st (st_callv rfl rfl rfl hcal rfl rfl (hf x (List.mem_of_getElem? hx) s g _ hH.zoff hH.mine) ?_)
 rintro _ w6 ⟨g5, rfl, hF7⟩
 replace hH := hH.turns hF7
 replace hH := hH.n1
 refine Dn <| If rfl (fun hc2 => ?_) (fun hc2 => ?_)
 have hq := hc2
 refine sw_sr <| Go1 2 4 (Ni i) <| Dn <| Rt1 rfl rfl ?_
 exact ⟨g5, by rw [hm, idxS_yes hx hq], by rw [hm, idxS_yes hx hq]; exact hH.turned⟩
 have hq := hc2
 refine sw_skip <| bkN <| sw_next <| sw_region <| Gw0 1 18 ((i : Int) + 1) ((i + 1 : Nat) : Int) <| Go1 1 8 (Ni (i + 1)) <| Dd <| rnd_end (g := (i, s, g)) (i + 1, (p s x).2, g5) (by kernel_rfl) ?_ ?_
 · exact ⟨by rw [hm, idxS_no hx hq], by omega, hH⟩
 · show ts.length - (i + 1) < ts.length - i; omega
 refine sw_exit <| thX <| thX <| bkH <| sw_next <| sw_sr <| Go1 1 4 (.int .i64 (-1)) <| Dn <| Rt1 rfl rfl ?_
 exact ⟨g, by rw [hm, idxS_end (by omega)], by rw [hm, idxS_end (by omega)]; exact hH.turned⟩
theorem CtnG_ct {σ γ : Type} (f : FuncId) (cl : List Value) (M : σ → γ → Own) (p : σ → Tv → Bool × σ) (s0 : σ) (g0 : γ) (cap : Nat) (A : Option Addr) (ts : List Tv) (c : Zone) (w : World) (hcal : callable Tryz.prog f = true) (hc : c.le (off w (blksOf [M s0 g0]))) (hM : Mine w [M s0 g0]) (hT : Row c (.slice A ts.length cap) 8 ts.length (rowC tvC ts)) (hf : ∀ x ∈ ts, SaysG f cl c M p x) :
    Fun Tryz.prog 110 [.slice A ts.length cap, .func (.func f) #[] cl.toArray] w fun v w' => ∃ g', v = .bool (anyS p s0 ts).1 ∧ Turn w w' [M s0 g0] [M (anyS p s0 ts).2 g'] := by
 refine fun_of_sw Tryz.func110 rfl 9 rfl rfl ?_
 have hH := (Hp.start_mine hM).zsub hc
 refine sw_sr <| Go0 1 <| Dn <| sw_sr <| Go2 2 5 (.slice A ts.length cap) 6 (.func (.func f) #[] cl.toArray) ?_
 replace hH : Hp w w _ _ ([_] ++ []) := hH
 refine gl_st (Sc rfl rfl (IdxG_ct f cl M p s0 g0 cap A ts c _ hcal hH.zoff hH.mine hT hf) ?_)
 rintro _ w2 ⟨g1, rfl, hF3⟩
 replace hH := hH.turns hF3
 replace hH := hH.n1
 refine Go1 2 4 (.bool (decide (((idxS p 0 s0 ts).1) ≥ (0 : Int)))) <| Dn <| Rt1 rfl rfl ?_
 exact ⟨g1, by rw [← idxS_any p ts 0 s0], by rw [← idxS_any p ts 0 s0]; exact hH.turned⟩
def EaC (t : Tv) : Prop := ∀ {σ γ : Type} (f : FuncId) (cl : List Value) (M : σ → γ → Own) (p : σ → Nd → Bool × σ) (st : σ) (g : γ) (c : Zone) (w : World), callable Tryz.prog f = true → TvOk c t → okNd t.nd = true → c.le (off w (blksOf [M st g])) → Mine w [M st g] → (∀ x, TvOk c x → okNd x.nd = true → SaysG f cl c M (fun s y => p s y.nd) x) →
  Fun Tryz.prog 64 [.agg (tvC t).toArray, .func (.func f) #[] cl.toArray] w fun v w' => ∃ g', v = .bool (eachF p t.nd st).1 ∧ Turn w w' [M st g] [M (eachF p t.nd st).2 g']
def yL {σ γ : Type} (yb : Nat) (f : FuncId) (cl : List Value) (M : σ → γ → Own) (s : σ) (g : γ) : List Own := [.blk yb 144 [.func (.func f) #[] cl.toArray], M s g]
def yM {σ γ : Type} (yb : Nat) (f : FuncId) (cl : List Value) (M : σ → γ → Own) (s : σ) (g : γ) : Own := .grp (yL yb f cl M s g)

theorem EachC_ct {σ γ : Type} (yb : Nat) (f : FuncId) (cl : List Value) (M : σ → γ → Own) (p : σ → Nd → Bool × σ) (c : Zone) (x : Tv) (hx : EaC x) (hcal : callable Tryz.prog f = true) (hok : TvOk c x) (hn : okNd x.nd = true) (hf : ∀ x, TvOk c x → okNd x.nd = true → SaysG f cl c M (fun s y => p s y.nd) x) : SaysG 111 [Pp yb 0] c (yM yb f cl M) (notP p) x := by
 intro s g w hc hM
 refine fun_of_sw Tryz.func111 rfl 8 rfl rfl ?_
 have hH := Hp.open_ (l := yL yb f cl M s g) ((Hp.start_mine hM).zsub hc)
 refine sw_sr <| gl_st (Bx [.int .i64 x.kind, .string (bs x.text), .int .u64 ((x.cl.a : Nat) : Int), .int .u64 ((x.cl.b : Nat) : Int), .int .u64 ((x.cl.c : Nat) : Int), .int .u64 ((x.cl.d : Nat) : Int), .slice x.A x.subs.length x.cap, .int .i64 x.pos] rfl hH ?_)
 clear hH; intro b1 w2 hH
 refine Go0 1 <| Dn <| sw_sr <| Gq rfl (La 2 [.int .i64 x.kind, .string (bs x.text), .int .u64 ((x.cl.a : Nat) : Int), .int .u64 ((x.cl.b : Nat) : Int), .int .u64 ((x.cl.c : Nat) : Int), .int .u64 ((x.cl.d : Nat) : Int), .slice x.A x.subs.length x.cap, .int .i64 x.pos] hH rfl rfl) <| Gq rfl (Lk 0 hH rfl rfl rfl) ?_
 replace hH : Hp w w2 _ _ ([_] ++ [_, _]) := hH.fr2
 refine gl_st (Sc rfl rfl (hx f cl M p s g c _ hcal hok hn hH.zoff hH.mine hf) ?_)
 rintro _ w4 ⟨g3, rfl, hF5⟩
 replace hH := hH.turns hF5
 replace hH := hH.n3
 refine Go1 2 3 (.bool (!((eachF p x.nd s).1))) <| Dn <| Rt1 rfl rfl ?_
 replace hH := hH.fr3.fr2
 replace hH := (hH.sb (slk (slk sln))).n2
 exact ⟨g3, rfl, (Hp.close (l := yL yb f cl M _ _) (r := []) hH).turned⟩
theorem Each_step (t : Tv) (IH : ∀ x ∈ t.subs, EaC x) : EaC t := by
 intro σ γ f cl M p st g c w hcal hok hnd hc hM hf
 have hpa := okNd_parts hnd
 refine fun_of_sw Tryz.func64 rfl 15 rfl rfl ?_
 have hH := (Hp.start_mine hM).zsub hc
 refine sw_sr <| gl_st (Bx [.int .i64 t.kind, .string (bs t.text), .int .u64 ((t.cl.a : Nat) : Int), .int .u64 ((t.cl.b : Nat) : Int), .int .u64 ((t.cl.c : Nat) : Int), .int .u64 ((t.cl.d : Nat) : Int), .slice t.A t.subs.length t.cap, .int .i64 t.pos] rfl hH ?_)
 clear hH; intro b1 w2 hH
 refine gl_st (Bx [.func (.func f) #[] cl.toArray] rfl hH ?_)
 clear hH; intro b3 w4 hH
 refine Go0 1 <| Dn <| sw_sr <| Gq rfl (Lk 2 hH rfl rfl rfl) <| Gq rfl (La 1 [.int .i64 t.kind, .string (bs t.text), .int .u64 ((t.cl.a : Nat) : Int), .int .u64 ((t.cl.b : Nat) : Int), .int .u64 ((t.cl.c : Nat) : Int), .int .u64 ((t.cl.d : Nat) : Int), .slice t.A t.subs.length t.cap, .int .i64 t.pos] hH rfl rfl) ?_
 replace hH : Hp w w4 _ _ ([_] ++ [_, _]) := hH
 refine gl_st (st_callv rfl rfl rfl hcal rfl rfl (hf t hok hnd st g _ hH.zoff hH.mine) ?_)
 rintro _ w6 ⟨g5, rfl, hF7⟩
 replace hH := hH.turns hF7
 replace hH := hH.n3
 refine Go1 1 8 (.bool ((p st t.nd).1)) <| Gi 8 rfl (fun hg1 => ?_) (fun hg1 => ?_)
 have hp : (p st t.nd).1 = true := hg1
 refine Go1 1 9 (Pp b1 6) <| Gq rfl (Lk 0 hH rfl rfl rfl) ?_
 replace hH := hH.fr3.fr3
 replace hH := Hp.close (l := yL b3 f cl M (p st t.nd).2 g5) hH
 refine Go1 1 11 (.func (.func 111) #[] #[Pp b3 0]) ?_
 replace hH : Hp w w6 _ _ ([_] ++ [_]) := hH
 refine gl_st (Sc rfl rfl (CtnG_ct 111 [Pp b3 0] (yM b3 f cl M) (notP p) (p st t.nd).2 g5 t.cap t.A t.subs c _ (by kernel_rfl) hH.zoff hH.mine hok.row (fun x hx => EachC_ct b3 f cl M p c x (IH x hx) hcal (hok.subs x hx) (hpa.2 x hx) hf)) ?_)
 rintro _ w9 ⟨g8, rfl, hF10⟩
 replace hH := hH.turns hF10
 replace hH := hH.n2
 replace hH := hH.fr2
 replace hH := Hp.open_ (l := yL b3 f cl M (anyS (notP p) (p st t.nd).2 t.subs).2 g8) hH
 refine Go1 3 4 (.bool (!((anyS (notP p) (p st t.nd).2 t.subs).1))) <| Dn <| Rt1 rfl rfl ?_
 replace hH := hH.fr2
 replace hH := (hH.sb (slk sln)).n1
 exact ⟨g8, by rw [eachF_tv, if_pos hp, eachFs_any], by rw [eachF_tv, if_pos hp, eachFs_any]; exact hH.turned⟩
 have hp : (p st t.nd).1 = false := hg1
 refine Go1 7 4 (.bool false) <| Dn <| Rt1 rfl rfl ?_
 replace hH := hH.fr3
 replace hH := (hH.sb (slk sln)).n1
 exact ⟨g5, by rw [eachF_tv, if_neg (by rw [hp]; decide)], by rw [eachF_tv, if_neg (by rw [hp]; decide)]; exact hH.turned⟩
theorem Each_ct (t : Tv) : EaC t := Tv.ind (P := EaC) Each_step t

end Go.Proofs.YtllfpnbhjfadiaaGreatDoor
/- Layer 8 (sound): the closure that looks for what comes again and again: what the program's function answers. -/
set_option maxRecDepth 100000
set_option maxHeartbeats 2000000
set_option linter.unusedVariables false
set_option linter.unusedSimpArgs false
namespace Go.Proofs.YtllfpnbhjfadiaaGreatDoor
open Go.RowKit Go.SW
def fptr (s : Option Int) (g : Nat) : Value := match s with
  | none => .pointer none
  | some _ => .pointer (some ⟨g, 0, none⟩)
theorem fptr_nil (s : Option Int) (g : Nat) : PNil (fptr s g) s.isNone := by
  cases s
  · exact .inl ⟨rfl, rfl⟩
  · exact .inr ⟨_, rfl, rfl⟩
def flO (s : Option Int) (g : Nat) : Own := .grp (match s with
  | none => []
  | some a => [.blk g 97 [.int .i64 40, .int .i64 a]])
def lpL (xb : Nat) (A : Option Addr) (n cap m : Nat) (T : Tab) (fb : Nat) (s : Option Int) (g : Nat) : List Own := [.blk xb 137 [.slice A n cap, .map (some m)], .kmap m strK (vmap ouV T), .blk fb 94 [fptr s g], flO s g]
def lpM (xb : Nat) (A : Option Addr) (n cap m : Nat) (T : Tab) (fb : Nat) (s : Option Int) (g : Nat) : Own := .grp (lpL xb A n cap m T fb s g)
theorem nd_head {x x0 : Tv} (h : x.subs[0]? = some x0) : x.nd.subs.headD (.mk 0 [] Cl.zero [] 0) = x0.nd := by
  cases x with
  | mk k t c A cap s p =>
    cases s with
    | nil => simp [Tv.subs] at h
    | cons y s => cases h; rfl
theorem loopP_hit {T : Tab} {s : Option Int} {x x0 : Tv} (h : x.kind = 9 ∨ x.kind = 10) (h0 : x.subs[0]? = some x0) (hz : (outF T x0.nd).z = true) : loopP T s x.nd = (false, some x.pos) := by
  unfold loopP
  rw [nd_head h0, Tv.nd_kind, if_pos ⟨h, hz⟩, Tv.nd_pos]
theorem loopP_not {T : Tab} {s : Option Int} {x : Tv} (h : ¬ (x.kind = 9 ∨ x.kind = 10)) : loopP T s x.nd = (s.isNone, s) := by
  unfold loopP
  rw [Tv.nd_kind, if_neg (fun e => h e.1)]
theorem loopP_no0 {T : Tab} {s : Option Int} {x x0 : Tv} (h0 : x.subs[0]? = some x0) (hz : (outF T x0.nd).z = false) : loopP T s x.nd = (s.isNone, s) := by
  unfold loopP
  rw [nd_head h0, if_neg (fun e => by rw [hz] at e; cases e.2)]

theorem Ck65_ct (xb : Nat) (A : Option Addr) (n cap m : Nat) (T : Tab) (fb : Nat) (c : Zone) (x : Tv) (hok : TvOk c x) (hnd : okNd x.nd = true) : SaysG 65 [Pp xb 0, Pp fb 0] c (lpM xb A n cap m T fb) (fun s y => loopP T s y.nd) x := by
 intro s g w hc hM
 have hpa := okNd_parts hnd
 refine fun_of_sw Tryz.func65 rfl 28 rfl rfl ?_
 have hH := Hp.open_ (l := lpL xb A n cap m T fb s g) ((Hp.start_mine hM).zsub hc)
 refine sw_sr <| gl_st (Bx [.int .i64 x.kind, .string (bs x.text), .int .u64 ((x.cl.a : Nat) : Int), .int .u64 ((x.cl.b : Nat) : Int), .int .u64 ((x.cl.c : Nat) : Int), .int .u64 ((x.cl.d : Nat) : Int), .slice x.A x.subs.length x.cap, .int .i64 x.pos] rfl hH ?_)
 clear hH; intro b1 w2 hH
 refine Go0 1 <| Dn <| sw_seq <| sw_seq <| Dr hH (slk (slc (slk (slk (slk sln))))) ?_
 clear hH; intro w3 hH hS9
 refine Gp1 1 [0] 5 (Pp b1 0) hS9 <| Dq 1 rfl (fun _ hS => (Lk 3 hS rfl rfl rfl)) hS9 <| Gp1 2 [2,3] 8 (.bool ((x.kind : Int) == (9 : Int))) hS9 <| Di 8 rfl (fun hg1 => ?_) (fun hg1 => ?_)
 have hk9 : x.kind = 9 := hg1
 refine Gp1 5 [4,5,6,7,8] 13 (.bool true) hS9 <| Dq 9 rfl (fun _ hS => (La 0 [.slice A n cap, .map (some m)] hS rfl rfl)) hS9 <| Gp1 1 [10] 15 (Pp b1 6) hS9 <| Dq 11 rfl (fun _ hS => (Lk 3 hS rfl rfl rfl)) hS9 ?_
 have hone : x.subs.length = 1 := okHd_one hpa.1 (by omega)
 obtain ⟨x0, hx0⟩ : ∃ y, x.subs[0]? = some y := ⟨_, List.getElem?_eq_getElem (by omega)⟩
 have hxm := List.mem_of_getElem? hx0
 obtain ⟨p4, hi6, hp5⟩ := hok.row.idx 0 (by omega) (by decide)
 refine Dq 12 rfl (fun _ hS => (Ix (e := 41) 8 rfl rfl hi6)) hS9 <| Dq 13 rfl (fun _ hS => (rd_loadZA (by kernel_rfl) hS hp5 rfl 0 rfl [.int .i64 x0.kind, .string (bs x0.text), .int .u64 ((x0.cl.a : Nat) : Int), .int .u64 ((x0.cl.b : Nat) : Int), .int .u64 ((x0.cl.c : Nat) : Int), .int .u64 ((x0.cl.d : Nat) : Int), .slice x0.A x0.subs.length x0.cap, .int .i64 x0.pos] (by kernel_rfl) (rowC_all tvC_len hx0 0 _ rfl))) hS9 ?_
 replace hH : Hp w w3 _ _ ([_] ++ [_, _, _, _]) := hH.fr2
 refine gds 14 (Sc rfl rfl (SoOut_ct x0 A n cap m T c _ (hok.subs x0 hxm) (hpa.2 x0 hxm) hH.zoff hH.mine) ?_)
 rintro _ w7 ⟨rfl, hF8⟩
 replace hH := hH.turns hF8
 replace hH := hH.n5
 refine Nl (hH.sb (slk (slk (slk (slk sln))))) fun hS9 => Gp1 2 [15,16] 21 (.bool ((outF T x0.nd).z)) hS9 <| gdn [(2, Pp fb 0), (3, Pp b1 0), (21, .bool ((outF T x0.nd).z))] <| sw_next <| If rfl (fun hc2 => ?_) (fun hc2 => ?_)
 have hz : (outF T x0.nd).z = true := hc2
 refine sw_region <| Go1 1 22 (Pp b1 7) <| Gq rfl (Lk 3 hH rfl rfl rfl) <| Go1 1 24 (.agg #[.int .i64 40, .int .i64 x.pos]) <| gl_st (Bx [.int .i64 40, .int .i64 x.pos] rfl hH ?_)
 clear hH; intro b9 w10 hH
 refine gl_st (Ks 1 (Pp b9 0) rfl hH rfl rfl ?_)
 clear hH; intro w11 hH
 refine Dd <| sw_next <| sw_sr <| Gq rfl (Lk 1 hH rfl rfl rfl) <| Go1 2 4 (.bool false) <| Dn <| Rt1 rfl rfl ?_
 replace hH := hH.fr6
 replace hH := Hp.close (l := [.blk b9 97 [.int .i64 40, .int .i64 x.pos]]) hH
 replace hH := hH.fr3.fr6.fr4
 replace hH := (hH.sb (slk (slk (slk (slk sln))))).n4
 show ∃ g2, _ = Value.bool (loopP T s x.nd).1 ∧ Turn _ _ _ [lpM xb A n cap m T fb (loopP T s x.nd).2 g2]
 exact ⟨b9, by rw [loopP_hit (.inl hk9) hx0 hz], by rw [loopP_hit (.inl hk9) hx0 hz]; exact (Hp.close (l := lpL xb A n cap m T fb (some x.pos) b9) (r := []) hH).turned⟩
 have hz : (outF T x0.nd).z = false := by simpa using hc2
 refine Sk <| sw_sr <| Gq rfl (Lk 1 hH rfl rfl rfl) <| Gq rfl (rd_pnil_eql (by kernel_rfl) rfl rfl (fptr_nil s g)) <| Go1 1 4 (.bool s.isNone) <| Dn <| Rt1 rfl rfl ?_
 replace hH := hH.fr3.fr3.fr5.fr4
 replace hH := (hH.sb (slk (slk (slk (slk sln))))).n4
 show ∃ g2, _ = Value.bool (loopP T s x.nd).1 ∧ Turn _ _ _ [lpM xb A n cap m T fb (loopP T s x.nd).2 g2]
 exact ⟨g, by rw [loopP_no0 hx0 hz], by rw [loopP_no0 hx0 hz]; exact (Hp.close (l := lpL xb A n cap m T fb s g) (r := []) hH).turned⟩
 have hk9 : ¬ x.kind = 9 := hg1
 refine Gp1 1 [4] 9 (Pp b1 0) hS9 <| Dq 5 rfl (fun _ hS => (Lk 3 hS rfl rfl rfl)) hS9 <| Gp1 3 [6,7,8] 13 (.bool ((x.kind : Int) == (10 : Int))) hS9 <| Di 13 rfl (fun hg3 => ?_) (fun hg3 => ?_)
 have hk10 : x.kind = 10 := hg3
 refine Dq 9 rfl (fun _ hS => (La 0 [.slice A n cap, .map (some m)] hS rfl rfl)) hS9 <| Gp1 1 [10] 15 (Pp b1 6) hS9 <| Dq 11 rfl (fun _ hS => (Lk 3 hS rfl rfl rfl)) hS9 ?_
 have hone : x.subs.length = 1 := okHd_one hpa.1 (by omega)
 obtain ⟨x0, hx0⟩ : ∃ y, x.subs[0]? = some y := ⟨_, List.getElem?_eq_getElem (by omega)⟩
 have hxm := List.mem_of_getElem? hx0
 obtain ⟨p12, hi14, hp13⟩ := hok.row.idx 0 (by omega) (by decide)
 refine Dq 12 rfl (fun _ hS => (Ix (e := 41) 8 rfl rfl hi14)) hS9 <| Dq 13 rfl (fun _ hS => (rd_loadZA (by kernel_rfl) hS hp13 rfl 0 rfl [.int .i64 x0.kind, .string (bs x0.text), .int .u64 ((x0.cl.a : Nat) : Int), .int .u64 ((x0.cl.b : Nat) : Int), .int .u64 ((x0.cl.c : Nat) : Int), .int .u64 ((x0.cl.d : Nat) : Int), .slice x0.A x0.subs.length x0.cap, .int .i64 x0.pos] (by kernel_rfl) (rowC_all tvC_len hx0 0 _ rfl))) hS9 ?_
 replace hH : Hp w w3 _ _ ([_] ++ [_, _, _, _]) := hH.fr2
 refine gds 14 (Sc rfl rfl (SoOut_ct x0 A n cap m T c _ (hok.subs x0 hxm) (hpa.2 x0 hxm) hH.zoff hH.mine) ?_)
 rintro _ w15 ⟨rfl, hF16⟩
 replace hH := hH.turns hF16
 replace hH := hH.n5
 refine Nl (hH.sb (slk (slk (slk (slk sln))))) fun hS9 => Gp1 2 [15,16] 21 (.bool ((outF T x0.nd).z)) hS9 <| gdn [(2, Pp fb 0), (3, Pp b1 0), (21, .bool ((outF T x0.nd).z))] <| sw_next <| If rfl (fun hc4 => ?_) (fun hc4 => ?_)
 have hz : (outF T x0.nd).z = true := hc4
 refine sw_region <| Go1 1 22 (Pp b1 7) <| Gq rfl (Lk 3 hH rfl rfl rfl) <| Go1 1 24 (.agg #[.int .i64 40, .int .i64 x.pos]) <| gl_st (Bx [.int .i64 40, .int .i64 x.pos] rfl hH ?_)
 clear hH; intro b17 w18 hH
 refine gl_st (Ks 1 (Pp b17 0) rfl hH rfl rfl ?_)
 clear hH; intro w19 hH
 refine Dd <| sw_next <| sw_sr <| Gq rfl (Lk 1 hH rfl rfl rfl) <| Go1 2 4 (.bool false) <| Dn <| Rt1 rfl rfl ?_
 replace hH := hH.fr6
 replace hH := Hp.close (l := [.blk b17 97 [.int .i64 40, .int .i64 x.pos]]) hH
 replace hH := hH.fr3.fr6.fr4
 replace hH := (hH.sb (slk (slk (slk (slk sln))))).n4
 show ∃ g2, _ = Value.bool (loopP T s x.nd).1 ∧ Turn _ _ _ [lpM xb A n cap m T fb (loopP T s x.nd).2 g2]
 exact ⟨b17, by rw [loopP_hit (.inr hk10) hx0 hz], by rw [loopP_hit (.inr hk10) hx0 hz]; exact (Hp.close (l := lpL xb A n cap m T fb (some x.pos) b17) (r := []) hH).turned⟩
 have hz : (outF T x0.nd).z = false := by simpa using hc4
 refine Sk <| sw_sr <| Gq rfl (Lk 1 hH rfl rfl rfl) <| Gq rfl (rd_pnil_eql (by kernel_rfl) rfl rfl (fptr_nil s g)) <| Go1 1 4 (.bool s.isNone) <| Dn <| Rt1 rfl rfl ?_
 replace hH := hH.fr3.fr3.fr5.fr4
 replace hH := (hH.sb (slk (slk (slk (slk sln))))).n4
 show ∃ g2, _ = Value.bool (loopP T s x.nd).1 ∧ Turn _ _ _ [lpM xb A n cap m T fb (loopP T s x.nd).2 g2]
 exact ⟨g, by rw [loopP_no0 hx0 hz], by rw [loopP_no0 hx0 hz]; exact (Hp.close (l := lpL xb A n cap m T fb s g) (r := []) hH).turned⟩
 have hk10 : ¬ x.kind = 10 := hg3
 refine Gp1 8 [9,10,11,12,13,14,15,16] 21 (.bool false) hS9 <| gdn [(2, Pp fb 0), (3, Pp b1 0), (21, .bool false)] <| sw_next <| Iz <| sw_skip <| sw_next <| sw_sr <| Gq rfl (Lk 2 hH rfl rfl rfl) <| Gq rfl (rd_pnil_eql (by kernel_rfl) rfl rfl (fptr_nil s g)) <| Go1 1 4 (.bool s.isNone) <| Dn <| Rt1 rfl rfl ?_
 replace hH := (hH.sb (slk (slk (slk (slk sln))))).n4
 show ∃ g2, _ = Value.bool (loopP T s x.nd).1 ∧ Turn _ _ _ [lpM xb A n cap m T fb (loopP T s x.nd).2 g2]
 exact ⟨g, by rw [loopP_not (fun h => h.elim hk9 hk10)], by rw [loopP_not (fun h => h.elim hk9 hk10)]; exact (Hp.close (l := lpL xb A n cap m T fb s g) (r := []) hH).turned⟩
end Go.Proofs.YtllfpnbhjfadiaaGreatDoor
/- Layer 8 (sound): does a rule come back: what the program's functions answer. -/
set_option maxRecDepth 100000
set_option maxHeartbeats 2000000
set_option linter.unusedVariables false
set_option linter.unusedSimpArgs false
namespace Go.Proofs.YtllfpnbhjfadiaaGreatDoor
open Go.RowKit Go.SW
def SaysI {σ : Type} (f : FuncId) (cl : List Value) (c : Zone) (M : σ → Own) (p : σ → Int → Bool × σ) (Inv : σ → Prop) (x : Int) : Prop :=
  ∀ (s : σ) (w' : World), Inv s → c.le (off w' (blksOf [M s])) → Mine w' [M s] → Fun Tryz.prog f (.int .i64 x :: cl) w' fun v w2 => v = .bool (p s x).1 ∧ Turn w' w2 [M s] [M (p s x).2]
theorem row_ilen {c : Zone} {A : Option Addr} {cap : Nat} {l : List Int} (h : Row c (.slice A l.length cap) 1 l.length (l.map encZ)) : l.length ≤ 9223372036854775807 := by
  obtain ⟨_, _, hx9, h1, h2⟩ := h.form
  cases hx9
  unfold maxLen at h2; omega

theorem IdxI_ct {σ : Type} (f : FuncId) (cl : List Value) (M : σ → Own) (p : σ → Int → Bool × σ) (Inv : σ → Prop) (s0 : σ) (cap : Nat) (A : Option Addr) (l : List Int) (c : Zone) (w : World) (hcal : callable Tryz.prog f = true) (h0 : Inv s0) (hc : c.le (off w (blksOf [M s0]))) (hM : Mine w [M s0]) (hT : Row c (.slice A l.length cap) 1 l.length (l.map encZ)) (hf : ∀ x ∈ l, SaysI f cl c M p Inv x) (hI : ∀ x ∈ l, ∀ s, Inv s → Inv (p s x).2) :
    Fun Tryz.prog 133 [.slice A l.length cap, .func (.func f) #[] cl.toArray] w fun v w' => v = .int .i64 (idxS p 0 s0 l).1 ∧ Turn w w' [M s0] [M (idxS p 0 s0 l).2] := by
 have hml := row_ilen hT
 refine fun_of_sw Tryz.func133 rfl 19 rfl rfl ?_
 have hH := (Hp.start_mine hM).zsub hc
 refine sw_sr <| Go0 1 <| Dn <| sw_seq <| sw_sr <| Go1 1 6 (.slice A l.length cap) <| Gq rfl (Ln (e := 3) rfl) <| Go1 1 8 (.int .i64 0) <| Dn <| sw_block <| Lp (γ := Nat × σ) hH (fun (i, s) => [(0, .slice A l.length cap), (1, .func (.func f) #[] cl.toArray), (7, Ni l.length), (8, Ni i)]) (fun (i, s) w_ H_ => (idxS p 0 s0 l = idxS p i s (l.drop i)) ∧ (i ≤ l.length) ∧ (Inv s) ∧ H_ [M s]) (fun (i, s) => l.length - i) (0, s0) ?_ ?_
 · exact ⟨rfl, Nat.zero_le _, h0, hH⟩
 clear hH
 rintro ⟨i, s⟩ w1 ⟨hm, hi, hv, hH⟩
 refine swk [(0, .slice A l.length cap), (1, .func (.func f) #[] cl.toArray), (7, Ni l.length), (8, Ni i)] <| sw_sr <| Go1 1 9 (.bool (decide ((i : Int) < ((l.length : Nat) : Int)))) <| Dn <| sw_seq <| If rfl (fun hc1 => ?_) (fun hc1 => ?_)
 refine Sk <| sw_seq <| sw_block <| sw_sr <| Go1 2 5 (Ni i) <| Dn ?_
 obtain ⟨x, hx⟩ : ∃ x, l[i]? = some x := ⟨_, List.getElem?_eq_getElem (by omega)⟩
 have hxm := List.mem_of_getElem? hx
 refine sw_sr ?_
 obtain ⟨p2, hi4, hp3⟩ := hT.idx i (by omega) (by decide)
 refine Go3 3 11 (.func (.func f) #[] cl.toArray) 12 (.slice A l.length cap) 13 (Ni i) <| Gq rfl (Ix (e := 3) 1 rfl rfl hi4) <| Gq rfl (rd_load (by kernel_rfl) rfl (hH.zin _ _ (hp3 0 _ (by decide) (by rw [Nat.mul_one, Nat.add_zero, List.getElem?_map, hx]; rfl)))) ?_
 replace hH : Hp w w1 _ _ ([_] ++ []) := hH
 refine gl_st (st_callv rfl rfl rfl hcal rfl rfl (hf x hxm s _ hv hH.zoff hH.mine) ?_)
 rintro _ w5 ⟨rfl, hF6⟩
 replace hH := hH.turns hF6
 replace hH := hH.n1
 refine Dn <| If rfl (fun hc2 => ?_) (fun hc2 => ?_)
 have hq := hc2
 refine sw_sr <| Go1 2 4 (Ni i) <| Dn <| Rt1 rfl rfl ?_
 exact ⟨by rw [hm, idxS_yes hx hq], by rw [hm, idxS_yes hx hq]; exact hH.turned⟩
 have hq := hc2
 refine sw_skip <| bkN <| sw_next <| sw_region <| Gw0 1 18 ((i : Int) + 1) ((i + 1 : Nat) : Int) <| Go1 1 8 (Ni (i + 1)) <| Dd <| rnd_end (g := (i, s)) (i + 1, (p s x).2) (by kernel_rfl) ?_ ?_
 · exact ⟨by rw [hm, idxS_no hx hq], by omega, hI x hxm s hv, hH⟩
 · show l.length - (i + 1) < l.length - i; omega
 refine sw_exit <| thX <| thX <| bkH <| sw_next <| sw_sr <| Go1 1 4 (.int .i64 (-1)) <| Dn <| Rt1 rfl rfl ?_
 exact ⟨by rw [hm, idxS_end (by omega)], by rw [hm, idxS_end (by omega)]; exact hH.turned⟩
theorem CtnI_ct {σ : Type} (f : FuncId) (cl : List Value) (M : σ → Own) (p : σ → Int → Bool × σ) (Inv : σ → Prop) (s0 : σ) (cap : Nat) (A : Option Addr) (l : List Int) (c : Zone) (w : World) (hcal : callable Tryz.prog f = true) (h0 : Inv s0) (hc : c.le (off w (blksOf [M s0]))) (hM : Mine w [M s0]) (hT : Row c (.slice A l.length cap) 1 l.length (l.map encZ)) (hf : ∀ x ∈ l, SaysI f cl c M p Inv x) (hI : ∀ x ∈ l, ∀ s, Inv s → Inv (p s x).2) :
    Fun Tryz.prog 81 [.slice A l.length cap, .func (.func f) #[] cl.toArray] w fun v w' => v = .bool (anyS p s0 l).1 ∧ Turn w w' [M s0] [M (anyS p s0 l).2] := by
 refine fun_of_sw Tryz.func81 rfl 9 rfl rfl ?_
 have hH := (Hp.start_mine hM).zsub hc
 refine sw_sr <| Go0 1 <| Dn <| sw_sr <| Go2 2 5 (.slice A l.length cap) 6 (.func (.func f) #[] cl.toArray) ?_
 replace hH : Hp w w _ _ ([_] ++ []) := hH
 refine gl_st (Sc rfl rfl (IdxI_ct f cl M p Inv s0 cap A l c _ hcal h0 hH.zoff hH.mine hT hf hI) ?_)
 rintro _ w1 ⟨rfl, hF2⟩
 replace hH := hH.turns hF2
 replace hH := hH.n1
 refine Go1 2 4 (.bool (decide (((idxS p 0 s0 l).1) ≥ (0 : Int)))) <| Dn <| Rt1 rfl rfl ?_
 exact ⟨by rw [← idxS_any p l 0 s0], by rw [← idxS_any p l 0 s0]; exact hH.turned⟩
def bkL (bb sb sm fb vb : Nat) (A : Option Addr) (n cap : Nat) (fm : Int) (S : Seen) : List Own := [.blk bb 145 [.slice A n cap], .blk sb 199 [.map (some sm)], .imap sm (vmap Value.bool S), .blk fb 3 [.int .i64 fm], .blk vb 168 [.func (.func 115) #[] #[Pp bb 0, Pp sb 0, Pp fb 0, Pp vb 0]]]
def bkM (bb sb sm fb vb : Nat) (A : Option Addr) (n cap : Nat) (fm : Int) (S : Seen) : Own := .grp (bkL bb sb sm fb vb A n cap fm S)
def BvC (bb sb sm fb vb : Nat) (A : Option Addr) (cap : Nat) (fm : Int) (bl : List Iv) (c : Zone) (k : Nat) : Prop :=
  ∀ (i : Nat) (S : Seen) (w : World), i < bl.length → unseen bl.length S + 1 ≤ k → c.le (off w (blksOf [bkM bb sb sm fb vb A bl.length cap fm S])) → Mine w [bkM bb sb sm fb vb A bl.length cap fm S] →
    Fun Tryz.prog 115 [.int .i64 ((i : Nat) : Int), Pp bb 0, Pp sb 0, Pp fb 0, Pp vb 0] w fun v w' => v = .bool (visitF (bl.map Iv.l) fm k (i : Int) S).1 ∧ Turn w w' [bkM bb sb sm fb vb A bl.length cap fm S] [bkM bb sb sm fb vb A bl.length cap fm (visitF (bl.map Iv.l) fm k (i : Int) S).2]

theorem BackC_ct (bb sb sm fb vb : Nat) (A : Option Addr) (cap : Nat) (fm : Int) (bl : List Iv) (c : Zone) (k j : Nat) (IH : BvC bb sb sm fb vb A cap fm bl c k) (hj : j < bl.length) (hjb : bl.length ≤ 9223372036854775807) : SaysI 116 [Pp sb 0, Pp fb 0, Pp vb 0] c (bkM bb sb sm fb vb A bl.length cap fm) (stepP (bl.map Iv.l) fm (visitF (bl.map Iv.l) fm k)) (fun S => unseen bl.length S ≤ k) (j : Int) := by
 intro S w hv hc hM
 refine fun_of_sw Tryz.func116 rfl 19 rfl rfl ?_
 have hH := Hp.open_ (l := bkL bb sb sm fb vb A bl.length cap fm S) ((Hp.start_mine hM).zsub hc)
 refine sw_sr <| Go0 1 <| Dn <| sw_seq <| sw_sr <| Gq rfl (Lk 1 hH rfl rfl rfl) <| Go1 1 7 (Ni j) <| Gq rfl (rd_imget (kt := 3) (e := 4) (zv := .bool false) 2 (by kernel_rfl) (by kernel_rfl) (by kernel_rfl) hH rfl rfl ((j : Int) : Int) rfl) <| gl_cv 8 (.bool ((getT S (j : Int)).getD false)) (kget_D Value.bool (j : Int) S false) rfl <| Dn <| If rfl (fun hc1 => ?_) (fun hc1 => ?_)
 have hs : (getT S (j : Int)).getD false = true := hc1
 refine sw_sr <| Go1 1 5 (.bool false) <| Dn <| Rt1 rfl rfl ?_
 replace hH := (hH.sb (slk (slk (slk (slk (slk sln)))))).n5
 have hst : (stepP (bl.map Iv.l) fm (visitF (bl.map Iv.l) fm k)) S (j : Int) = (false, S) := if_pos hs
 exact ⟨by rw [hst], by rw [hst]; exact (Hp.close (l := bkL bb sb sm fb vb A bl.length cap fm S) (r := []) hH).turned⟩
 have hs : seenB S (j : Int) = false := hc1
 refine Sk <| sw_sr <| Gq rfl (Lk 1 hH rfl rfl rfl) <| Go1 1 10 (Ni j) <| gl_st (st_imput (kt := 3) (e := 4) (v := .bool true) 2 rfl rfl rfl (by kernel_rfl) (by kernel_rfl) hH rfl rfl ((j : Int) : Int) rfl rfl ?_)
 clear hH; intro w1 hH
 replace hH := hH.cast (os' := [.blk bb 145 [.slice A bl.length cap], .blk sb 199 [.map (some sm)], .imap sm (vmap Value.bool (putT S (j : Int) true)), .blk fb 3 [.int .i64 fm], .blk vb 168 [.func (.func 115) #[] #[Pp bb 0, Pp sb 0, Pp fb 0, Pp vb 0]]]) (by rw [kputK_vmap]; rfl)
 refine Dn <| sw_sr <| Go1 1 11 (Ni j) <| Gq rfl (Lk 3 hH rfl rfl rfl) <| Go1 2 14 (.bool ((j : Int) == (fm : Int))) <| Gi 14 rfl (fun hg2 => ?_) (fun hg2 => ?_)
 have hfm : (j : Int) = fm := hg2
 refine Go1 5 5 (.bool true) <| Dn <| Rt1 rfl rfl ?_
 replace hH := (hH.sb (slk (slk (slk (slk (slk sln)))))).n5
 have hst : (stepP (bl.map Iv.l) fm (visitF (bl.map Iv.l) fm k)) S (j : Int) = (true, (putT S (j : Int) true)) := (if_neg (by rw [show (getT S (j : Int)).getD false = false from hs]; decide)).trans (if_pos hfm)
 exact ⟨by rw [hst], by rw [hst]; exact (Hp.close (l := bkL bb sb sm fb vb A bl.length cap fm (putT S (j : Int) true)) (r := []) hH).turned⟩
 have hfm : ¬ (j : Int) = fm := hg2
 refine Gq rfl (Lk 4 hH rfl rfl rfl) ?_
 replace hH := Hp.close (l := bkL bb sb sm fb vb A bl.length cap fm (putT S (j : Int) true)) hH
 refine Go1 1 16 (Ni j) ?_
 replace hH : Hp w w1 _ _ ([_] ++ []) := hH
 refine gl_st (st_callv rfl rfl rfl (by kernel_rfl) rfl rfl (IH j (putT S (j : Int) true) _ hj (by have := unseen_put hj hs; omega) hH.zoff hH.mine) ?_)
 rintro _ w2 ⟨rfl, hF3⟩
 replace hH := hH.turns hF3
 replace hH := hH.n1
 refine Go1 2 5 (.bool ((visitF (bl.map Iv.l) fm k (j : Int) (putT S (j : Int) true)).1)) <| Dn <| Rt1 rfl rfl ?_
 replace hH := (hH.sb (slk sln)).n1
 have hst : (stepP (bl.map Iv.l) fm (visitF (bl.map Iv.l) fm k)) S (j : Int) = ((visitF (bl.map Iv.l) fm k (j : Int) (putT S (j : Int) true)).1, (visitF (bl.map Iv.l) fm k (j : Int) (putT S (j : Int) true)).2) := (if_neg (by rw [show (getT S (j : Int)).getD false = false from hs]; decide)).trans (if_neg hfm)
 exact ⟨by rw [hst], by rw [hst]; exact hH.turned⟩
theorem BackV_step (bb sb sm fb vb : Nat) (A : Option Addr) (cap : Nat) (fm : Int) (bl : List Iv) (c : Zone) (k : Nat) (IH : BvC bb sb sm fb vb A cap fm bl c k) (hB : Row c (.slice A bl.length cap) 1 bl.length (rowC ivC bl)) (hivs : IvsOk c bl) (hin : ∀ x ∈ bl, ∀ q ∈ x.l, 0 ≤ q ∧ q < bl.length) (hjb : bl.length ≤ 9223372036854775807) : BvC bb sb sm fb vb A cap fm bl c (k + 1) := by
 intro i S w hi hu hc hM
 obtain ⟨iv, hiv⟩ : ∃ iv, bl[i]? = some iv := ⟨_, List.getElem?_eq_getElem hi⟩
 have hivm := List.mem_of_getElem? hiv
 refine fun_of_sw Tryz.func115 rfl 13 rfl rfl ?_
 have hH := Hp.open_ (l := bkL bb sb sm fb vb A bl.length cap fm S) ((Hp.start_mine hM).zsub hc)
 refine sw_sr <| Go0 1 <| Dn <| sw_sr <| Gq rfl (Lk 0 hH rfl rfl rfl) ?_
 obtain ⟨p1, hi3, hp2⟩ := hB.idx i (by omega) (by decide)
 refine Go1 1 8 (Ni i) <| Gq rfl (Ix (e := 28) 1 rfl rfl hi3) <| Gq rfl (rd_load (by kernel_rfl) rfl (hH.zin _ _ (hp2 0 _ (by decide) (rowC_at ivC_len hiv 0 (by decide) rfl)))) ?_
 replace hH := Hp.close (l := bkL bb sb sm fb vb A bl.length cap fm S) hH
 refine Go1 1 11 (.func (.func 116) #[] #[Pp sb 0, Pp fb 0, Pp vb 0]) ?_
 replace hH : Hp w w _ _ ([_] ++ []) := hH
 refine gl_st (Sc rfl rfl (CtnI_ct 116 [Pp sb 0, Pp fb 0, Pp vb 0] (bkM bb sb sm fb vb A bl.length cap fm) (stepP (bl.map Iv.l) fm (visitF (bl.map Iv.l) fm k)) (fun S => unseen bl.length S ≤ k) S iv.cap iv.A iv.l c _ (by kernel_rfl) (by omega) hH.zoff hH.mine (hivs iv hivm) (fun x hx => by obtain ⟨h1, h2⟩ := hin iv hivm x hx; obtain ⟨j, rfl⟩ := Int.eq_ofNat_of_zero_le h1; exact BackC_ct bb sb sm fb vb A cap fm bl c k j IH (by omega) hjb) (fun x hx S1 h1 => Nat.le_trans (unseen_le (step_le (visit_le _ _ k) S1 x)) h1)) ?_)
 rintro _ w4 ⟨rfl, hF5⟩
 replace hH := hH.turns hF5
 replace hH := hH.n1
 refine Go1 1 6 (.bool ((anyS (stepP (bl.map Iv.l) fm (visitF (bl.map Iv.l) fm k)) S iv.l).1)) <| Dn <| Rt1 rfl rfl ?_
 replace hH := (hH.sb (slk sln)).n1
 exact ⟨by rw [visit_at hiv], by rw [visit_at hiv]; exact hH.turned⟩
theorem BackV_ct (bb sb sm fb vb : Nat) (A : Option Addr) (cap : Nat) (fm : Int) (bl : List Iv) (c : Zone) (hB : Row c (.slice A bl.length cap) 1 bl.length (rowC ivC bl)) (hivs : IvsOk c bl) (hin : ∀ x ∈ bl, ∀ q ∈ x.l, 0 ≤ q ∧ q < bl.length) (hjb : bl.length ≤ 9223372036854775807) : ∀ k, BvC bb sb sm fb vb A cap fm bl c k
  | 0 => fun i S w hi hu => by omega
  | k + 1 => BackV_step bb sb sm fb vb A cap fm bl c k (BackV_ct bb sb sm fb vb A cap fm bl c hB hivs hin hjb k) hB hivs hin hjb

theorem UBack_ct (bl : List Iv) (A : Option Addr) (cap i : Nat) (c : Zone) (w : World) (hc : c.le w.cell?) (hB : Row c (.slice A bl.length cap) 1 bl.length (rowC ivC bl)) (hivs : IvsOk c bl) (hin : ∀ x ∈ bl, ∀ q ∈ x.l, 0 ≤ q ∧ q < bl.length) (hjb : bl.length ≤ 9223372036854775807) (hi : i < bl.length) :
    Fun Tryz.prog 68 [.slice A bl.length cap, .int .i64 ((i : Nat) : Int)] w fun v w' => v = .bool (backF (bl.map Iv.l) i) ∧ Fresh w w' [] := by
 refine fun_of_sw Tryz.func68 rfl 12 rfl rfl ?_
 have hH := (Hp.start w).zsub hc
 refine sw_sr <| gl_st (Bx [.slice A bl.length cap] rfl hH ?_)
 clear hH; intro b1 w2 hH
 refine gl_st (Bx [Ni i] rfl hH ?_)
 clear hH; intro b3 w4 hH
 refine Go0 1 <| Dn <| sw_sr <| gl_st (st_makeIm rfl rfl rfl hH ?_)
 clear hH; intro m5 w6 hH
 refine gl_st (Alc [.map none] rfl hH ?_)
 clear hH; intro b7 w8 hH
 refine gl_st (Ks 3 (.map (some m5)) rfl hH rfl rfl ?_)
 clear hH; intro w9 hH
 refine Dn <| sw_sr <| gl_st (Alc [.nilFunc] rfl hH ?_)
 clear hH; intro b10 w11 hH
 refine Dn <| sw_sr <| Go1 1 8 (.func (.func 115) #[] #[Pp b1 0, Pp b7 0, Pp b3 0, Pp b10 0]) <| gl_st (Ks 4 (.func (.func 115) #[] #[Pp b1 0, Pp b7 0, Pp b3 0, Pp b10 0]) rfl hH rfl rfl ?_)
 clear hH; intro w12 hH
 refine Dn <| sw_sr <| Gq rfl (Lk 4 hH rfl rfl rfl) <| Gq rfl (Lk 1 hH rfl rfl rfl) ?_
 replace hH := hH.fr5.fr3.fr4.fr5.fr5
 replace hH := Hp.close (l := bkL b1 b7 m5 b3 b10 A bl.length cap (i : Int) []) hH
 replace hH : Hp w w12 _ _ ([_] ++ []) := hH
 refine gl_st (st_callv rfl rfl rfl (by kernel_rfl) rfl rfl (BackV_ct b1 b7 m5 b3 b10 A cap (i : Int) bl c hB hivs hin hjb (bl.length + 1) i [] _ hi (by have := unseen_nil bl.length; omega) hH.zoff hH.mine) ?_)
 rintro _ w13 ⟨rfl, hF14⟩
 replace hH := hH.turns hF14
 replace hH := hH.n1
 refine Go1 1 4 (.bool ((visitF (bl.map Iv.l) (i : Int) (bl.length + 1) (i : Int) []).1)) <| Dn <| Rt1 rfl rfl ?_
 exact ⟨by unfold backF; rw [List.length_map], (hH.sb sln).fresh⟩
end Go.Proofs.YtllfpnbhjfadiaaGreatDoor
/- Layer 8 (sound): Check: what the program's function answers. -/
set_option maxRecDepth 100000
set_option maxHeartbeats 2000000
set_option linter.unusedVariables false
set_option linter.unusedSimpArgs false
namespace Go.Proofs.YtllfpnbhjfadiaaGreatDoor
open Go.RowKit Go.SW
theorem rd_pnil_neq {P : Program} {fr : Fr} {w : World} {d : Option Tmp} {ty : TypeId} {pos : String} {aft : Array Edge} {g : Option (Nat × Bool)} {t t2 : TypeId} {x y : Operand} (ht : ptrT P t = true) {v : Value} {b : Bool} (hx : ev fr x = v) (hy : ev fr y = .pointer none) (hv : PNil v b) : Runs P fr ⟨d, .binOp .neq t x y t2, ty, pos, aft, g⟩ (.bool (!b)) w := by
  have hr := run_pnil (P := P) (w := w) ht hv
  have hg : (eqGuard .neq t x y v (.pointer none)).run P w = .ok () w := by rcases hv with ⟨rfl, _⟩ | ⟨a, rfl, _⟩ <;> simp [eqGuard]
  have hb : binOp .neq t v (.pointer none) = (do pure (.bool (!(← Op.equal t v (.pointer none))))) := by rcases hv with ⟨rfl, _⟩ | ⟨a, rfl, _⟩ <;> rfl
  unfold Runs
  simp only [execOp, hx, hy, Sem.run_bind, hg, Result.andThen_ok, hb, hr, Sem.run_pure]

theorem UCheck_ct (rs : List Rv) (cap : Nat) (A : Option Addr) (c : Zone) (w : World) (hg0 : c ⟨0, 0, none⟩ = some errTy) (hc : c.le w.cell?) (hT : Row c (.slice A rs.length cap) 10 rs.length (rowC rvC rs)) (hok : RvsOk c rs) (hb : 2400 * Rv.sizes rs ≤ 70368744177664) :
    Fun Tryz.prog 30 [.agg #[.slice A rs.length cap]] w fun v w' => ErPost (soundF (rs.map Rv.rl)) w v w' := by
 obtain ⟨Ax, cx, hx9, hx1, hx2⟩ := hT.form
 cases hx9
 have hml : maxLen ≤ 9223372036854775807 := by unfold maxLen; decide
 refine fun_of_sw Tryz.func30 rfl 54 rfl rfl ?_
 have hH := (Hp.start w).zsub hc
 refine sw_sr <| gl_st (Bx [.slice A rs.length cap] rfl hH ?_)
 clear hH; intro b1 w2 hH
 refine Go0 1 <| Dn <| sw_sr <| Gq rfl (La 0 [.slice A rs.length cap] hH rfl rfl) <| gl_st (Sc rfl rfl (ULooked_ct rs cap A c _ hg0 hH.zin hT hok hb) ?_)
 rintro _ w10 ⟨x3, x4, m5, fb6, rfl, ho7, ho8, hx9, hF11⟩
 replace hH := hH.call hF11
 refine Go2 3 14 (.agg #[x3, x4]) 15 (erV (scopeF (rs.map Rv.rl)) fb6) <| gl_st (Alc [.slice none 0 0, .map none] rfl hH ?_)
 clear hH; intro b12 w13 hH
 refine gl_st (Ka 3 [x3, x4] [x3, x4] rfl hH rfl rfl (hv := (by simp only [List.all_cons, List.all_nil, ho7, ho8]; rfl)) ?_)
 clear hH; intro w14 hH
 refine Go1 1 4 (erV (scopeF (rs.map Rv.rl)) fb6) <| Dn <| sw_seq <| sw_sr <| Go1 1 16 (erV (scopeF (rs.map Rv.rl)) fb6) <| Gq rfl (rd_er_ne (by kernel_rfl) rfl) <| Dn <| If rfl (fun hc1 => ?_) (fun hc1 => ?_)
 have hs : (scopeF (rs.map Rv.rl)).isNil = false := hc1
 refine sw_sr <| Go1 2 2 (erV (scopeF (rs.map Rv.rl)) fb6) <| Dn <| Rt1 rfl rfl ?_
 replace hH := hH.fr3
 replace hH := (hH.sb (slk sln)).n1
 exact ⟨fb6, by rw [snd_scope hs], by rw [snd_scope hs]; exact hH.fresh⟩
 have hs : (scopeF (rs.map Rv.rl)).isNil = true := hc1
 replace hH := hH.fr4.fr3
 replace hH := (hH.sb (slk (slk (slk sln)))).n3
 obtain ⟨rfl, rfl⟩ := hx9 hs
 have hso := scope_ok hs
 have hall := print_ok hso.1
 have h64 := print_len hso.1
 obtain ⟨T, hTd⟩ : ∃ T, lookT (rs.map Rv.rl) = T := ⟨_, rfl⟩
 unfold lkO at hH
 rw [if_pos hs, hTd] at hH
 replace hH := Hp.open_ (l := [.kmap m5 strK (vmap ouV T)]) hH
 replace hH := hH.fr3.fr2.fr3
 refine Sk <| sw_seq <| sw_sr <| Go1 1 19 (Pp b1 0) <| Gq rfl (Lk 2 hH rfl rfl rfl) <| Gq rfl (Ln (e := 43) rfl) <| Go1 1 22 (.int .i64 0) <| Dn <| sw_block ?_
 replace hH := (hH.sb (slk (slk (slk sln)))).n3
 refine Lp (γ := Nat) hH (fun i => [(1, Pp b1 0), (3, Pp b12 0), (20, .slice A rs.length cap), (21, Ni rs.length), (22, Ni i)]) (fun i w_ H_ => (loopsF T (rs.map Rv.rl) = loopsF T ((rs.drop i).map Rv.rl)) ∧ (i ≤ rs.length) ∧ H_ [.blk b12 137 [.slice A rs.length cap, .map (some m5)], .kmap m5 strK (vmap ouV T), .blk b1 24 [.slice A rs.length cap]]) (fun i => rs.length - i) (0) ?_ ?_
 · exact ⟨rfl, Nat.zero_le _, hH⟩
 clear hH
 rintro i w15 ⟨hm, hi, hH⟩
 refine swk [(1, Pp b1 0), (3, Pp b12 0), (20, .slice A rs.length cap), (21, Ni rs.length), (22, Ni i)] <| sw_sr <| Go1 1 23 (.bool (decide ((i : Int) < ((rs.length : Nat) : Int)))) <| Dn <| sw_seq <| If rfl (fun hc2 => ?_) (fun hc2 => ?_)
 refine Sk <| sw_seq <| sw_block ?_
 obtain ⟨r, hx⟩ : ∃ r, rs[i]? = some r := ⟨_, List.getElem?_eq_getElem (by omega)⟩
 have hxm := List.mem_of_getElem? hx
 have hrb := hok r hxm
 refine sw_sr ?_
 obtain ⟨p16, hi18, hp17⟩ := hT.idx i (by omega) (by decide)
 refine Gq rfl (Ix (e := 43) 10 rfl rfl hi18) <| Gq rfl (rd_loadZA (by kernel_rfl) hH hp17 rfl 0 rfl [.string (bs r.name), .int .i64 r.body.kind, .string (bs r.body.text), .int .u64 ((r.body.cl.a : Nat) : Int), .int .u64 ((r.body.cl.b : Nat) : Int), .int .u64 ((r.body.cl.c : Nat) : Int), .int .u64 ((r.body.cl.d : Nat) : Int), .slice r.body.A r.body.subs.length r.body.cap, .int .i64 r.body.pos, .int .i64 r.pos] (by kernel_rfl) (rowC_all rvC_len hx 0 _ rfl)) <| gl_st (Alc [.string (bs []), .int .i64 0, .string (bs []), .int .u64 0, .int .u64 0, .int .u64 0, .int .u64 0, .slice none 0 0, .int .i64 0, .int .i64 0] rfl hH ?_)
 clear hH; intro b19 w20 hH
 refine gl_st (Ka 3 [.string (bs r.name), .int .i64 r.body.kind, .string (bs r.body.text), .int .u64 ((r.body.cl.a : Nat) : Int), .int .u64 ((r.body.cl.b : Nat) : Int), .int .u64 ((r.body.cl.c : Nat) : Int), .int .u64 ((r.body.cl.d : Nat) : Int), .slice r.body.A r.body.subs.length r.body.cap, .int .i64 r.body.pos, .int .i64 r.pos] [.string (bs r.name), .int .i64 r.body.kind, .string (bs r.body.text), .int .u64 ((r.body.cl.a : Nat) : Int), .int .u64 ((r.body.cl.b : Nat) : Int), .int .u64 ((r.body.cl.c : Nat) : Int), .int .u64 ((r.body.cl.d : Nat) : Int), .slice r.body.A r.body.subs.length r.body.cap, .int .i64 r.body.pos, .int .i64 r.pos] rfl hH rfl rfl ?_)
 clear hH; intro w21 hH
 refine Dn <| sw_sr <| gl_st (Alc [.pointer none] rfl hH ?_)
 clear hH; intro b22 w23 hH
 refine Dn <| sw_sr <| Go1 1 26 (Pp b19 1) <| Gq rfl (La 3 [.int .i64 r.body.kind, .string (bs r.body.text), .int .u64 ((r.body.cl.a : Nat) : Int), .int .u64 ((r.body.cl.b : Nat) : Int), .int .u64 ((r.body.cl.c : Nat) : Int), .int .u64 ((r.body.cl.d : Nat) : Int), .slice r.body.A r.body.subs.length r.body.cap, .int .i64 r.body.pos] hH rfl rfl) ?_
 replace hH := hH.nogrp
 replace hH := hH.fr6.fr6.fr4.fr4
 replace hH := Hp.close (l := lpL b12 A rs.length cap m5 T b22 none 0) hH
 refine Go1 1 28 (.func (.func 65) #[] #[Pp b12 0, Pp b22 0]) ?_
 replace hH : Hp w w23 _ _ ([_] ++ [_, _]) := hH
 refine gl_st (Sc rfl rfl (Each_ct r.body 65 [Pp b12 0, Pp b22 0] (lpM b12 A rs.length cap m5 T b22) (loopP T) none 0 c _ (by kernel_rfl) hrb.body (hall r hxm) hH.zoff hH.mine (fun x h1 h2 => Ck65_ct b12 A rs.length cap m5 T b22 c x h1 h2)) ?_)
 rintro _ w25 ⟨g24, rfl, hF26⟩
 replace hH := hH.turns hF26
 replace hH := hH.n3
 replace hH := hH.fr3
 replace hH := Hp.open_ (l := lpL b12 A rs.length cap m5 T b22 (eachF (loopP T) r.body.nd none).2 g24) hH
 refine Dn <| sw_sr <| Gq rfl (Lk 2 hH rfl rfl rfl) <| Gq rfl (rd_pnil_neq (by kernel_rfl) rfl rfl (fptr_nil (eachF (loopP T) r.body.nd none).2 g24)) <| Dn <| If rfl (fun hc3 => ?_) (fun hc3 => ?_)
 obtain ⟨a, ha⟩ : ∃ a, (eachF (loopP T) r.body.nd none).2 = some a := by
   cases e9 : (eachF (loopP T) r.body.nd none).2 with
   | none => rw [e9] at hc3; cases hc3
   | some a => exact ⟨a, rfl⟩
 refine sw_sr <| Gq rfl (Lk 2 hH rfl rfl rfl) <| Go1 2 2 (.iface 94 ((fptr (eachF (loopP T) r.body.nd none).2 g24))) <| Dn <| Rt1 rfl rfl ?_
 replace hH := hH.fr4
 rw [ha] at hH ⊢
 replace hH := Hp.open_ (l := [.blk g24 97 [.int .i64 40, .int .i64 a]]) hH
 exact ep_flt (c := 40) (a := a) (snd_loop hs (by rw [hTd, hm, loopsF_at hx, ha])) (hH.sb (slk sln))
 have hq : (eachF (loopP T) r.body.nd none).2 = none := Option.isNone_iff_eq_none.1 hc3
 refine sw_skip <| bkN <| sw_next <| sw_region <| Gw0 1 34 ((i : Int) + 1) ((i + 1 : Nat) : Int) <| Go1 1 22 (Ni (i + 1)) <| Dd <| rnd_end (g := (i)) (i + 1) (by kernel_rfl) ?_ ?_
 replace hH := hH.fr5.fr3.fr3
 replace hH := (hH.sb (slk (slk (slk sln)))).n3
 · exact ⟨by rw [hm, loopsF_at hx, hq], by omega, hH⟩
 · show rs.length - (i + 1) < rs.length - i; omega
 refine sw_exit <| thX <| thX <| bkH <| sw_next <| sw_sr <| Gq rfl (La 0 [.slice A rs.length cap, .map (some m5)] hH rfl rfl) ?_
 replace hH : Hp w w15 _ _ ([_] ++ [_, _]) := hH.fr2
 refine gl_st (Sc rfl rfl (UBegins_ct rs cap A m5 T c _ hH.zoff hH.mine hT hok hall h64 hb) ?_)
 rintro v27 w32 ⟨_, bl28, pl29, rfl, hbl30, hiv31, hF33⟩
 replace hH := hH.turns hF33
 replace hH := hH.n5
 refine Go1 1 8 v27 <| Dn <| sw_seq <| sw_sr <| Go1 1 37 (Pp b1 0) <| Gq rfl (Lk 1 hH rfl rfl rfl) <| Gq rfl (Ln (e := 43) rfl) <| Go1 1 40 (.int .i64 0) <| Dn <| sw_block ?_
 obtain ⟨A34, c35, rfl, hl36, hm37⟩ := hH.row_form 3 rfl
 replace hH := hH.fr2.fr3.fr3.fr5.fr5
 replace hH := (hH.sb (slk (slk (slk (slk (slk sln)))))).n5
 have hld : loopsF (lookT (rs.map Rv.rl)) (rs.map Rv.rl) = .nil := by rw [hTd, hm, List.drop_eq_nil_of_le (by omega)]; rfl
 clear hm hi
 have hbn : bl28.length = rs.length := by have h9 := congrArg List.length hbl30; rw [begins_len, List.length_map, List.length_map] at h9; exact h9
 have hin : ∀ x ∈ bl28, ∀ q ∈ x.l, 0 ≤ q ∧ q < bl28.length := by
   intro x hx q hq
   have h9 := begins_in hs T x.l (by rw [← hbl30]; exact List.mem_map.2 ⟨x, hx, rfl⟩) q hq
   rw [List.length_map] at h9; rw [hbn]; exact h9
 obtain ⟨c2, hc9, hpz, hB, hH9⟩ := Hp.frozen2 hH
 clear hH
 have hH := hH9
 clear hH9
 have hT2 := hT.mono hc9
 have hiv2 := hiv31.mono hpz
 refine Lp (γ := Nat) hH (fun j => [(8, .slice A34 bl28.length c35), (38, .slice A rs.length cap), (39, Ni rs.length), (40, Ni j)]) (fun j w_ H_ => (leftsF (bl28.map Iv.l) 0 (rs.map Rv.rl) = leftsF (bl28.map Iv.l) j ((rs.drop j).map Rv.rl)) ∧ (j ≤ rs.length) ∧ H_ [.blk b12 137 [.slice A rs.length cap, .map (some m5)], .kmap m5 strK (vmap ouV T), .blk b1 24 [.slice A rs.length cap]]) (fun j => rs.length - j) (0) ?_ ?_
 · exact ⟨rfl, Nat.zero_le _, hH⟩
 clear hH
 rintro j w38 ⟨hm, hi, hH⟩
 refine swk [(8, .slice A34 bl28.length c35), (38, .slice A rs.length cap), (39, Ni rs.length), (40, Ni j)] <| sw_sr <| Go1 1 41 (.bool (decide ((j : Int) < ((rs.length : Nat) : Int)))) <| Dn <| sw_seq <| If rfl (fun hc4 => ?_) (fun hc4 => ?_)
 refine Sk <| sw_seq <| sw_block ?_
 obtain ⟨r, hx⟩ : ∃ r, rs[j]? = some r := ⟨_, List.getElem?_eq_getElem (by omega)⟩
 have hxm := List.mem_of_getElem? hx
 have hrb := hok r hxm
 refine sw_sr ?_
 obtain ⟨p39, hi41, hp40⟩ := hT2.idx j (by omega) (by decide)
 refine Go1 1 42 (Ni j) <| Gq rfl (Ix (e := 43) 10 rfl rfl hi41) <| Gq rfl (rd_loadZA (by kernel_rfl) hH hp40 rfl 0 rfl [.string (bs r.name), .int .i64 r.body.kind, .string (bs r.body.text), .int .u64 ((r.body.cl.a : Nat) : Int), .int .u64 ((r.body.cl.b : Nat) : Int), .int .u64 ((r.body.cl.c : Nat) : Int), .int .u64 ((r.body.cl.d : Nat) : Int), .slice r.body.A r.body.subs.length r.body.cap, .int .i64 r.body.pos, .int .i64 r.pos] (by kernel_rfl) (rowC_all rvC_len hx 0 _ rfl)) <| gl_st (Alc [.string (bs []), .int .i64 0, .string (bs []), .int .u64 0, .int .u64 0, .int .u64 0, .int .u64 0, .slice none 0 0, .int .i64 0, .int .i64 0] rfl hH ?_)
 clear hH; intro b42 w43 hH
 refine Go1 1 9 (Ni j) <| gl_st (Ka 3 [.string (bs r.name), .int .i64 r.body.kind, .string (bs r.body.text), .int .u64 ((r.body.cl.a : Nat) : Int), .int .u64 ((r.body.cl.b : Nat) : Int), .int .u64 ((r.body.cl.c : Nat) : Int), .int .u64 ((r.body.cl.d : Nat) : Int), .slice r.body.A r.body.subs.length r.body.cap, .int .i64 r.body.pos, .int .i64 r.pos] [.string (bs r.name), .int .i64 r.body.kind, .string (bs r.body.text), .int .u64 ((r.body.cl.a : Nat) : Int), .int .u64 ((r.body.cl.b : Nat) : Int), .int .u64 ((r.body.cl.c : Nat) : Int), .int .u64 ((r.body.cl.d : Nat) : Int), .slice r.body.A r.body.subs.length r.body.cap, .int .i64 r.body.pos, .int .i64 r.pos] rfl hH rfl rfl ?_)
 clear hH; intro w44 hH
 refine Dn <| sw_sr <| Go2 2 45 (.slice A34 bl28.length c35) 46 (Ni j) <| gl_st (Sc rfl rfl (UBack_ct bl28 A34 c35 j c2 _ hH.zin hB hiv2 hin (by omega) (by omega)) ?_)
 rintro _ w45 ⟨rfl, hF46⟩
 replace hH := hH.call hF46
 refine Dn <| If rfl (fun hc5 => ?_) (fun hc5 => ?_)
 have hq : backF (bl28.map Iv.l) j = true := hc5
 refine sw_sr <| Go1 1 48 (Pp b42 9) <| Gq rfl (Lk 3 hH rfl rfl rfl) <| Go1 1 50 (.agg #[.int .i64 41, .int .i64 r.pos]) <| gl_st (Bx [.int .i64 41, .int .i64 r.pos] rfl hH ?_)
 clear hH; intro b47 w48 hH
 exact Go1 2 2 (.iface 94 (Pp b47 0)) <| Dn <| Rt1 rfl rfl <| ep_flt (c := 41) (a := r.pos) ((snd_left hs hld).trans (by rw [hTd, ← hbl30, hm, leftsF_at hx, if_pos hq]) ) (hH.sb (slc (slc (slc (slc (slk sln))))))
 have hq : backF (bl28.map Iv.l) j = false := hc5
 refine sw_skip <| bkN <| sw_next <| sw_region <| Gw0 1 53 ((j : Int) + 1) ((j + 1 : Nat) : Int) <| Go1 1 40 (Ni (j + 1)) <| Dd <| rnd_end (g := (j)) (j + 1) (by kernel_rfl) ?_ ?_
 replace hH := (hH.sb (slk (slk (slk sln)))).n3
 · exact ⟨by rw [hm, leftsF_at hx, if_neg (by rw [hq]; decide)], by omega, hH⟩
 · show rs.length - (j + 1) < rs.length - j; omega
 exact sw_exit <| thX <| thX <| bkH <| sw_next <| sw_sr <| Go1 1 2 (.nilIface) <| Dn <| Rt1 rfl rfl <| ep_nil ((snd_left hs hld).trans (by rw [hTd, ← hbl30, hm, List.drop_eq_nil_of_le (by omega)]; rfl)) (hH.sb sln)
end Go.Proofs.YtllfpnbhjfadiaaGreatDoor
/- Layer 9 (code): operations, keys, what is made of a grammar. Plain mathematics. -/
set_option linter.unusedVariables false
namespace Go.Proofs.YtllfpnbhjfadiaaGreatDoor
open Go.RowKit Go.SW
def sqB (t : List UInt8) : List UInt8 := (strOfNums (Lib.quoteZ Lib.goPrintTabs (bs t))).data.toList
structure Op where
  k : Int
  t : List UInt8
  c : Cl
  s : List Int
/-- An operation with its row. -/
structure Ov where
  o : Op
  A : Option Addr
  cap : Nat
def iC (q : Int) : List Value := [.int .i64 q]
theorem iC_len (q : Int) : (iC q).length = 1 := rfl
def opC (x : Ov) : List Value := [.int .i64 x.o.k, .string (bs x.o.t), .int .u64 ((x.o.c.a : Nat) : Int), .int .u64 ((x.o.c.b : Nat) : Int), .int .u64 ((x.o.c.c : Nat) : Int), .int .u64 ((x.o.c.d : Nat) : Int), .slice x.A x.o.s.length x.cap]
theorem opC_len (x : Ov) : (opC x).length = 7 := rfl
def I64 (q : Int) : Prop := -9223372036854775808 ≤ q ∧ q ≤ 9223372036854775807
structure OvOk (c : Zone) (x : Ov) : Prop where
  cl : x.o.c.Ok
  row : Row c (.slice x.A x.o.s.length x.cap) 1 x.o.s.length (rowC iC x.o.s)
  t : x.o.t.length ≤ 140737488355328
  k : I64 x.o.k
  s : ∀ q ∈ x.o.s, I64 q
theorem OvOk.mono {c c' : Zone} {x : Ov} (h : OvOk c x) (hc : c.le c') : OvOk c' x := ⟨h.cl, h.row.mono hc, h.t, h.k, h.s⟩
def OvsOk (c : Zone) (l : List Ov) : Prop := ∀ x ∈ l, OvOk c x
theorem OvsOk.mono {c c' : Zone} {l : List Ov} (h : OvsOk c l) (hc : c.le c') : OvsOk c' l := fun x hx => (h x hx).mono hc
theorem OvsOk.add {c : Zone} {l : List Ov} {x : Ov} (h : OvsOk c l) (hx : OvOk c x) : OvsOk c (l ++ [x]) := fun y hy => by
  rcases List.mem_append.1 hy with hy | hy
  · exact h y hy
  · rw [List.mem_singleton.1 hy]; exact hx
def keyH (o : Op) : List UInt8 := Lib.itoa o.k ++ [32] ++ sqB o.t ++ [32] ++ textC o.c
def keyF (o : Op) : List UInt8 := keyH o ++ o.s.flatMap fun q => [32] ++ Lib.itoa q
/-- What is made already. -/
structure Ms where
  ops : List Op
  kn : Names
def addM (o : Op) (S : Ms) : Nat × Ms :=
  match getT S.kn (keyF o) with
  | some i => (i, S)
  | none => (S.ops.length, ⟨S.ops ++ [o], putT S.kn (keyF o) S.ops.length⟩)
def opM (g : List Rl) (k : Int) (t : List UInt8) (c : Cl) (s : List Int) : Op := if k = 5 then ⟨k, [], c, [findF t g]⟩ else ⟨k, t, c, s⟩
mutual
def exprM (g : List Rl) : Nd → Ms → Nat × Ms
  | .mk k t c s p, S => addM (opM g k t c (kidsM g s S).1) (kidsM g s S).2
def kidsM (g : List Rl) : List Nd → Ms → List Int × Ms
  | [], S => ([], S)
  | x :: s, S => (((exprM g x S).1 : Int) :: (kidsM g s (exprM g x S).2).1, (kidsM g s (exprM g x S).2).2)
end
def rootsM (g : List Rl) : List Rl → Ms → List Nat × Ms
  | [], S => ([], S)
  | r :: rs, S => ((exprM g r.body S).1 :: (rootsM g rs (exprM g r.body S).2).1, (rootsM g rs (exprM g r.body S).2).2)
structure Pg where
  ops : List Op
  names : List (List UInt8)
  roots : List Int
def Pg.no : Pg := ⟨[], [], []⟩
def mk0 (rs : List Rl) : List Nat × Ms := rootsM rs rs ⟨[], []⟩
def makeF (rs : List Rl) : Er5 × Pg :=
  if (soundF rs).isNil then (if 200 < (mk0 rs).2.ops.length then (.no 2, .no) else (.nil, ⟨(mk0 rs).2.ops, rs.map (·.name), (mk0 rs).1.map Int.ofNat⟩))
  else (soundF rs, .no)
theorem kidsM_at {g : List Rl} {s : List Tv} {i : Nat} {x : Tv} (h : s[i]? = some x) (S : Ms) : kidsM g (Tv.nds (s.drop i)) S = (((exprM g x.nd S).1 : Int) :: (kidsM g (Tv.nds (s.drop (i + 1))) (exprM g x.nd S).2).1, (kidsM g (Tv.nds (s.drop (i + 1))) (exprM g x.nd S).2).2) := by
  obtain ⟨hi, rfl⟩ := List.getElem?_eq_some_iff.1 h
  rw [List.drop_eq_getElem_cons hi, Tv.nds, kidsM]
theorem rootsM_at {g : List Rl} {s : List Rv} {i : Nat} {x : Rv} (h : s[i]? = some x) (S : Ms) : rootsM g ((s.drop i).map Rv.rl) S = ((exprM g x.body.nd S).1 :: (rootsM g ((s.drop (i + 1)).map Rv.rl) (exprM g x.body.nd S).2).1, (rootsM g ((s.drop (i + 1)).map Rv.rl) (exprM g x.body.nd S).2).2) := by
  obtain ⟨hi, rfl⟩ := List.getElem?_eq_some_iff.1 h
  rw [List.drop_eq_getElem_cons hi, List.map_cons, rootsM]; rfl
theorem exprM_tv (g : List Rl) (t : Tv) (S : Ms) : exprM g t.nd S = addM (opM g t.kind t.text t.cl (kidsM g (Tv.nds t.subs) S).1) (kidsM g (Tv.nds t.subs) S).2 := by
  cases t; rw [Tv.nd, exprM]; rfl
def KnOk (S : Ms) : Prop := ∀ p ∈ S.kn, p.2 < S.ops.length
theorem getT_mem {κ β : Type} [DecidableEq κ] {k : κ} {x : β} : ∀ {l : List (κ × β)}, getT l k = some x → (k, x) ∈ l
  | [], h => by cases h
  | (a, y) :: l, h => by
    rw [getT] at h
    split at h
    · rename_i e; cases h; rw [← e]; exact List.mem_cons_self ..
    · exact List.mem_cons_of_mem _ (getT_mem h)
theorem addM_ok {o : Op} {S : Ms} (h : KnOk S) : KnOk (addM o S).2 ∧ (addM o S).1 < (addM o S).2.ops.length ∧ S.ops.length ≤ (addM o S).2.ops.length ∧ (addM o S).2.ops.length ≤ S.ops.length + 1 := by
  unfold addM
  split
  · rename_i i e
    exact ⟨h, h _ (getT_mem e), Nat.le_refl _, Nat.le_succ _⟩
  · rename_i e
    refine ⟨fun p hp => ?_, by simp, by simp, by simp⟩
    simp only [List.length_append, List.length_cons, List.length_nil]
    rcases putT_mem hp with rfl | hp
    · simp
    · have := h p hp; omega
def ExOk (g : List Rl) (n : Nd) : Prop := ∀ S : Ms, KnOk S → KnOk (exprM g n S).2 ∧ (exprM g n S).1 < (exprM g n S).2.ops.length ∧ S.ops.length ≤ (exprM g n S).2.ops.length ∧ (exprM g n S).2.ops.length ≤ S.ops.length + n.size
theorem kids_ok {g : List Rl} : ∀ (s : List Nd) (S : Ms), (∀ x ∈ s, ExOk g x) → KnOk S → KnOk (kidsM g s S).2 ∧ (∀ q ∈ (kidsM g s S).1, 0 ≤ q ∧ q < (kidsM g s S).2.ops.length) ∧ S.ops.length ≤ (kidsM g s S).2.ops.length ∧ (kidsM g s S).2.ops.length ≤ S.ops.length + Nd.sizes s ∧ (kidsM g s S).1.length = s.length
  | [], S, H, h => by rw [kidsM]; exact ⟨h, (fun q hq => by cases hq), Nat.le_refl _, Nat.le_add_right _ _, rfl⟩
  | x :: s, S, H, h => by
    obtain ⟨h1, h2, h3, h4⟩ := H x (List.mem_cons_self ..) S h
    obtain ⟨k1, k2, k3, k4, k5⟩ := kids_ok s (exprM g x S).2 (fun y hy => H y (List.mem_cons_of_mem x hy)) h1
    rw [kidsM, Nd.sizes]
    refine ⟨k1, fun q hq => ?_, by show S.ops.length ≤ (kidsM g s (exprM g x S).2).2.ops.length; omega, by show (kidsM g s (exprM g x S).2).2.ops.length ≤ _; omega, by show (kidsM g s (exprM g x S).2).1.length + 1 = s.length + 1; omega⟩
    rcases List.mem_cons.1 hq with rfl | hq
    · show 0 ≤ ((exprM g x S).1 : Int) ∧ ((exprM g x S).1 : Int) < ((kidsM g s (exprM g x S).2).2.ops.length : Nat)
      omega
    · exact k2 q hq
theorem ex_ok (g : List Rl) (n : Nd) : ExOk g n := by
  suffices ∀ N, ∀ n : Nd, n.size ≤ N → ExOk g n from this _ n (Nat.le_refl _)
  intro N
  induction N with
  | zero => intro n hn; cases n; rw [Nd.size] at hn; omega
  | succ N ih =>
    intro n hn
    cases n with
    | mk k t c s p =>
      rw [Nd.size] at hn
      intro S h
      obtain ⟨k1, k2, k3, k4, k5⟩ := kids_ok s S (fun x hx => ih x (by have := Nd.size_mem hx; omega)) h
      obtain ⟨a1, a2, a3, a4⟩ := addM_ok (o := opM g k t c (kidsM g s S).1) k1
      rw [exprM, Nd.size]
      exact ⟨a1, a2, by omega, by omega⟩
theorem roots_ok {g : List Rl} : ∀ (rs : List Rl) (S : Ms), KnOk S → KnOk (rootsM g rs S).2 ∧ S.ops.length ≤ (rootsM g rs S).2.ops.length ∧ (∀ q ∈ (rootsM g rs S).1, q < (rootsM g rs S).2.ops.length) ∧ (rootsM g rs S).1.length = rs.length
  | [], S, h => by rw [rootsM]; exact ⟨h, Nat.le_refl _, (fun q hq => by cases hq), rfl⟩
  | r :: rs, S, h => by
    obtain ⟨h1, h2, h3, h4⟩ := ex_ok g r.body S h
    obtain ⟨k1, k2, k3, k4⟩ := roots_ok (g := g) rs (exprM g r.body S).2 h1
    rw [rootsM]
    refine ⟨k1, by show S.ops.length ≤ (rootsM g rs (exprM g r.body S).2).2.ops.length; omega, fun q hq => ?_, by show (rootsM g rs (exprM g r.body S).2).1.length + 1 = rs.length + 1; omega⟩
    rcases List.mem_cons.1 hq with rfl | hq
    · show (exprM g r.body S).1 < (rootsM g rs (exprM g r.body S).2).2.ops.length
      omega
    · exact k3 q hq
theorem itoa_len {q : Int} (h : I64 q) : (Lib.itoa q).length ≤ 21 := Lib.itoa_length_le q h.1 h.2
theorem bs_size (l : List UInt8) : (bs l).size = l.length := rfl
theorem sqB_len (t : List UInt8) : (sqB t).length ≤ 10 * t.length + 2 := by
  have h := Lib.quoteZ_length_le Lib.goPrintTabs (bs t)
  rw [bs_size] at h
  unfold sqB strOfNums
  simpa using h
theorem keyH_len {o : Op} (h : I64 o.k) : (keyH o).length ≤ 10 * o.t.length + 2400 := by
  have h1 := itoa_len h
  have h2 := sqB_len o.t
  have h3 := textC_len o.c
  unfold keyH
  simp only [List.length_append, List.length_cons, List.length_nil]
  omega
theorem keyK_len {s : List Int} (h : ∀ q ∈ s, I64 q) : (s.flatMap fun q => [32] ++ Lib.itoa q).length ≤ 22 * s.length := by
  induction s with
  | nil => simp
  | cons q s ih =>
    have h1 := itoa_len (h q (List.mem_cons_self ..))
    have h2 := ih fun x hx => h x (List.mem_cons_of_mem q hx)
    simp only [List.flatMap_cons, List.length_append, List.length_cons, List.length_nil]
    omega
theorem take_key {l : List Int} {i : Nat} {r : Int} (h : l[i]? = some r) : (l.take (i + 1)).flatMap (fun q => [32] ++ Lib.itoa q) = (l.take i).flatMap (fun q => [32] ++ Lib.itoa q) ++ ([32] ++ Lib.itoa r) := by
  rw [List.take_add_one, h]; simp
def TabW (w : World) : Prop := Lib.TabIs Tryz.prog w "internal/strconv.uint64pow10" .u64 Lib.pow10Tab
theorem tabP : Tryz.prog.globalNamed "internal/strconv.uint64pow10" = some 2 := by kernel_rfl
def TbC (c : Zone) : Prop := (∀ w : World, c.le w.cell? → Lib.Utf8Tabs 3 4 w ∧ Lib.PrintTabsAt 5 6 7 8 Lib.goPrintTabs w) ∧ ∃ v, c ⟨2, 0, none⟩ = some v
theorem TbC.mono {c c' : Zone} (h : TbC c) (hc : c.le c') : TbC c' := ⟨fun w hw => h.1 w (hc.trans hw), by obtain ⟨v, hv⟩ := h.2; exact ⟨v, hc _ _ hv⟩⟩
theorem tab_lt {w : World} (h : TabW w) : 2 < w.heap.size := by
  unfold TabW Lib.TabIs World.var? at h
  rw [tabP] at h
  simp only [Option.bind_some] at h
  cases hh : w.heap[2]? with
  | none => rw [hh] at h; simp at h
  | some o => exact (Array.getElem?_eq_some_iff.1 hh).1
theorem tab_keep {w w' : World} (h : TabW w) (e : w'.heap[2]? = w.heap[2]?) : TabW w' := by
  unfold TabW Lib.TabIs World.var? at *
  rw [tabP] at *
  simp only [Option.bind_some] at *
  rw [e]; exact h
theorem tab_now {w0 w : World} {c z : Zone} {F : List Nat} {os : List Own} (h : TabW w0) (ht : TbC c) (hc : c.le (off w0 F)) (hH : Hp w0 w z F os) : TabW w := by
  refine tab_keep h (hH.keep 2 (tab_lt h) fun hm => ?_)
  obtain ⟨v, hv⟩ := ht.2
  have h1 := hc _ _ hv
  unfold off at h1
  rw [if_pos (show (⟨2, 0, none⟩ : Addr).block ∈ F from hm)] at h1
  cases h1
theorem off_nil (w : World) : off w [] = w.cell? := by
  funext a; unfold off; rw [if_neg (by simp)]
end Go.Proofs.YtllfpnbhjfadiaaGreatDoor
/- Layer 9 (code): a key: what the program's function answers. -/
set_option maxRecDepth 100000
set_option maxHeartbeats 2000000
set_option linter.unusedVariables false
set_option linter.unusedSimpArgs false
namespace Go.Proofs.YtllfpnbhjfadiaaGreatDoor
open Go.RowKit Go.SW
theorem fresh_grow (w : World) (k : Nat) (os : Array Obj) : Fresh w (Go.Sort.grow (w.drewN k) os) [] :=
  ⟨rfl, rfl, rfl, by simp [Go.Sort.grow, World.drewN], fun j hj _ => by
    show ((w.drewN k).heap ++ os)[j]? = _
    rw [Array.getElem?_append_left (by simpa using hj)]; rfl, fun a v h => by simp at h, by simp, by simp [blksOf], by simp [blksOf]⟩
theorem ItoaI_ct (q : Int) (w : World) (hq : I64 q) (hT : TabW w) :
    Fun Tryz.prog 120 [.int .i64 q] w fun v w' => v = .string (bs (Lib.itoa q)) ∧ Fresh w w' [] := by
  refine Calls.mono (Tryz.strconv_Itoa q hq.1 hq.2 w hT) ?_
  rintro e w' ⟨rfl, n, os, rfl⟩
  exact ⟨_, rfl, rfl, fresh_grow w n os⟩
theorem fresh_below {w w' : World} (h : Below w.heap.size w w') : Fresh w w' [] :=
  ⟨h.os, h.tape, h.output, h.size, fun k hk _ => h.block k hk, fun a v h => by simp at h, by simp, by simp [blksOf], by simp [blksOf]⟩
theorem QuoteS_ct (t : List UInt8) (w : World) (ht : t.length ≤ 1099511627776) (hT : Lib.Utf8Tabs 3 4 w ∧ Lib.PrintTabsAt 5 6 7 8 Lib.goPrintTabs w) :
    Fun Tryz.prog 121 [.string (bs t)] w fun v w' => v = .string (bs (sqB t)) ∧ Fresh w w' [] := by
  refine Calls.mono (Tryz.strconv_Quote Lib.goPrintTabs (bs t) w (by rw [bs_size]; omega) hT.2 hT.1) ?_
  rintro e w' ⟨rfl, h⟩
  exact ⟨_, rfl, rfl, fresh_below h⟩

theorem CKey_ct (x : Ov) (c : Zone) (w : World) (hc : c.le w.cell?) (hP : TabW w) (hZ : TbC c) (hok : OvOk c x) (hb : 10 * x.o.t.length + 22 * x.o.s.length ≤ 1099511627776) :
    Fun Tryz.prog 70 [.agg (opC x).toArray] w fun v w' => v = .string (bs (keyF x.o)) ∧ Fresh w w' [] := by
 obtain ⟨Ax, cx, hx9, hx1, hx2⟩ := hok.row.form
 cases hx9
 have hml : maxLen ≤ 9223372036854775807 := by unfold maxLen; decide
 have hl1 := itoa_len hok.k
 have hl2 := sqB_len x.o.t
 have hl3 := textC_len x.o.c
 have hl4 := keyH_len hok.k (o := x.o)
 refine fun_of_sw Tryz.func70 rfl 33 rfl rfl ?_
 have hH := (Hp.start w).zsub hc
 refine sw_sr <| gl_st (Bx [.int .i64 x.o.k, .string (bs x.o.t), .int .u64 ((x.o.c.a : Nat) : Int), .int .u64 ((x.o.c.b : Nat) : Int), .int .u64 ((x.o.c.c : Nat) : Int), .int .u64 ((x.o.c.d : Nat) : Int), .slice x.A x.o.s.length x.cap] rfl hH ?_)
 clear hH; intro b1 w2 hH
 refine Go0 1 <| Dn <| sw_sr <| gl_st (Alc [.pointer none, .slice none 0 0] rfl hH ?_)
 clear hH; intro b3 w4 hH
 refine Dn <| sw_seq <| Dr hH (slk sln) ?_
 clear hH; intro w5 hH hS9
 refine Gp1 1 [0] 6 (Pp b1 0) hS9 <| Dq 1 rfl (fun _ hS => (Lk 0 hS rfl rfl rfl)) hS9 <| Gp1 1 [4] 10 (Pp b1 1) hS9 <| Dq 5 rfl (fun _ hS => (Lk 0 hS rfl rfl rfl)) hS9 <| Gp1 1 [9] 15 (Pp b1 2) hS9 <| Dq 10 rfl (fun _ hS => (La 0 [.int .u64 ((x.o.c.a : Nat) : Int), .int .u64 ((x.o.c.b : Nat) : Int), .int .u64 ((x.o.c.c : Nat) : Int), .int .u64 ((x.o.c.d : Nat) : Int)] hS rfl rfl)) hS9 <| gds 2 (Sc rfl rfl (ItoaI_ct x.o.k _ hok.k (tab_now hP hZ (by rw [off_nil]; exact hc) hH)) ?_)
 rintro _ w6 ⟨rfl, hF7⟩
 replace hH := hH.call hF7
 refine Nl (hH.sb (slk sln)) fun hS9 => Dq 3 rfl (fun _ hS => (rd_sadd (by kernel_rfl) rfl rfl (by simp only [List.length_append, List.length_cons, List.length_nil]; omega))) hS9 <| gds 6 (Sc rfl rfl (QuoteS_ct x.o.t _ (by omega) (hZ.1 _ hH.zin)) ?_)
 rintro _ w8 ⟨rfl, hF9⟩
 replace hH := hH.call hF9
 refine Nl (hH.sb (slk sln)) fun hS9 => Dq 7 rfl (fun _ hS => (rd_sadd (by kernel_rfl) rfl rfl (by simp only [List.length_append, List.length_cons, List.length_nil]; omega))) hS9 <| Dq 8 rfl (fun _ hS => (rd_sadd (by kernel_rfl) rfl rfl (by simp only [List.length_append, List.length_cons, List.length_nil]; omega))) hS9 <| gds 11 (Sc rfl rfl (CText_ct x.o.c _ hok.cl) ?_)
 rintro _ w10 ⟨rfl, hF11⟩
 replace hH := hH.call hF11
 refine Nl (hH.sb (slk sln)) fun hS9 => Dq 12 rfl (fun _ hS => (rd_sadd (by kernel_rfl) rfl rfl (by simp only [List.length_append, List.length_cons, List.length_nil]; omega))) hS9 ?_
 replace hH := hH.nilRow 5 1
 replace hH : Hp w w10 _ _ ([_, _] ++ [_]) := hH.fr3.fr3
 refine gds 13 (Sc rfl rfl (WriteString_ct b3 209 (.pointer none) (.slice none 0 0) [] (((((Lib.itoa x.o.k) ++ [32]) ++ (sqB x.o.t)) ++ [32]) ++ (textC x.o.c)) _ (.inl rfl) hH.mine lies_bd (by simp only [List.length_append, List.length_cons, List.length_nil]; omega)) ?_)
 rintro _ w13 ⟨v12, rfl, hF14⟩
 replace hH := hH.turns hF14
 replace hH := hH.n3
 refine Nl (hH.sb (slk sln)) fun hS9 => gdn [(1, Pp b1 0), (3, Pp b3 0)] <| sw_next <| sw_seq <| sw_sr <| Go1 1 20 (Pp b1 6) <| Gq rfl (Lk 0 hH rfl rfl rfl) <| Gq rfl (Ln (e := 3) rfl) <| Go1 1 23 (.int .i64 0) <| Dn <| sw_block ?_
 replace hH := hH.fr3.fr3
 replace hH := (hH.sb (slk (slk sln))).n2
 refine Lp (γ := Nat × Value) hH (fun (i, v) => [(3, Pp b3 0), (21, .slice x.A x.o.s.length x.cap), (22, Ni x.o.s.length), (23, Ni i)]) (fun (i, v) w_ H_ => (i ≤ x.o.s.length) ∧ H_ [.blk b3 209 [Pp b3 0, v], .row v 5 1 ((keyH x.o ++ (x.o.s.take i).flatMap fun q => [32] ++ Lib.itoa q).length) (bv (keyH x.o ++ (x.o.s.take i).flatMap fun q => [32] ++ Lib.itoa q))]) (fun (i, v) => x.o.s.length - i) (0, v12) ?_ ?_
 · exact ⟨Nat.zero_le _, hH.cast (by simp [keyH])⟩
 clear hH
 rintro ⟨i, v⟩ w15 ⟨hi, hH⟩
 refine swk [(3, Pp b3 0), (21, .slice x.A x.o.s.length x.cap), (22, Ni x.o.s.length), (23, Ni i)] <| sw_sr <| Go1 1 24 (.bool (decide ((i : Int) < ((x.o.s.length : Nat) : Int)))) <| Dn <| sw_seq <| If rfl (fun hc1 => ?_) (fun hc1 => ?_)
 refine Sk <| sw_seq <| sw_block ?_
 obtain ⟨q, hq⟩ : ∃ q, x.o.s[i]? = some q := ⟨_, List.getElem?_eq_getElem (by omega)⟩
 have hq64 := hok.s q (List.mem_of_getElem? hq)
 have hl5 := itoa_len hq64
 have hl6 := keyK_len (s := x.o.s.take i) fun y hy => hok.s y (List.mem_of_mem_take hy)
 rw [List.length_take, Nat.min_eq_left (by omega)] at hl6
 refine sw_sr ?_
 obtain ⟨p16, hi18, hp17⟩ := hok.row.idx i (by omega) (by decide)
 refine Gq rfl (Ix (e := 3) 1 rfl rfl hi18) <| Gq rfl (rd_load (by kernel_rfl) rfl (hH.zin _ _ (hp17 0 _ (by decide) (rowC_at iC_len hq 0 (by decide) rfl)))) <| Go1 1 5 (.int .i64 q) <| Dn <| sw_region <| Go1 1 27 (.int .i64 q) <| gl_st (Sc rfl rfl (ItoaI_ct q _ hq64 (tab_now hP hZ (by rw [off_nil]; exact hc) hH)) ?_)
 rintro _ w19 ⟨rfl, hF20⟩
 replace hH := hH.call hF20
 refine Gq rfl (rd_sadd (by kernel_rfl) rfl rfl (by simp only [List.length_append, List.length_cons, List.length_nil]; omega)) ?_
 replace hH : Hp w w19 _ _ ([_, _] ++ []) := hH
 refine gl_st (Sc rfl rfl (WriteString_ct b3 209 (Pp b3 0) v (keyH x.o ++ (x.o.s.take i).flatMap fun q => [32] ++ Lib.itoa q) ([32] ++ (Lib.itoa q)) _ (.inr rfl) hH.mine lies_bd (by simp only [List.length_append, List.length_cons, List.length_nil]; omega)) ?_)
 rintro _ w22 ⟨v21, rfl, hF23⟩
 replace hH := hH.turns hF23
 replace hH := hH.n2
 refine Dd <| bkN <| sw_next <| sw_region <| Gw0 1 31 ((i : Int) + 1) ((i + 1 : Nat) : Int) <| Go1 1 23 (Ni (i + 1)) <| Dd <| rnd_end (g := (i, v)) (i + 1, v21) (by kernel_rfl) ?_ ?_
 replace hH := (hH.sb (slk (slk sln))).n2
 · exact ⟨by omega, hH.cast (by rw [take_key hq]; simp)⟩
 · show x.o.s.length - (i + 1) < x.o.s.length - i; omega
 refine sw_exit <| thX <| thX <| bkH <| sw_next <| sw_sr ?_
 replace hH : Hp w w15 _ _ ([_, _] ++ []) := hH
 refine gl_st (Sc rfl rfl (String_ct b3 209 (Pp b3 0) v (keyH x.o ++ (x.o.s.take i).flatMap fun q => [32] ++ Lib.itoa q) _ hH.mine (.inl (by simp [keyH]))) ?_)
 rintro _ w24 ⟨rfl, hF25⟩
 replace hH := hH.turns hF25
 replace hH : Hp w w24 _ _ [] := hH
 refine Go1 1 2 (.string (bs (keyH x.o ++ (x.o.s.take i).flatMap fun q => [32] ++ Lib.itoa q))) <| Dn <| Rt1 rfl rfl ?_
 have hie : i = x.o.s.length := by omega
 subst hie
 exact ⟨by rw [List.take_length]; rfl, (hH.sb sln).fresh⟩
end Go.Proofs.YtllfpnbhjfadiaaGreatDoor
/- Layer 9 (code): an expression is made into operations: what the program's function answers. -/
set_option maxRecDepth 100000
set_option maxHeartbeats 2000000
set_option linter.unusedVariables false
set_option linter.unusedSimpArgs false
namespace Go.Proofs.YtllfpnbhjfadiaaGreatDoor
open Go.RowKit Go.SW
theorem gd_st4 {P : Program} {n : Sh} {ops : Array Oper} {Q : Exit → Act → World → Prop} {S : World → Prop} {kk : Nat} {listed : Array Bool} {fr : Fr} {w : World} (i j l m : Nat) (hr : (Region.ready .any ops listed == [i, j, l, m]) = true) (h1 : ST P n ops Q i (fun fr' w' => S w' ∧ GD P n ops Q S kk (listed.setIfInBounds i true) fr' w') fr w) (h2 : ST P n ops Q j (fun fr' w' => S w' ∧ GD P n ops Q S kk (listed.setIfInBounds j true) fr' w') fr w)
    (h3 : ST P n ops Q l (fun fr' w' => S w' ∧ GD P n ops Q S kk (listed.setIfInBounds l true) fr' w') fr w) (h4 : ST P n ops Q m (fun fr' w' => S w' ∧ GD P n ops Q S kk (listed.setIfInBounds m true) fr' w') fr w) : GD P n ops Q S (kk + 1) listed fr w :=
  gd_stl [i, j, l, m] (by simp) hr (fun x hx => by
    simp only [List.mem_cons, List.not_mem_nil, or_false] at hx
    rcases hx with rfl | rfl | rfl | rfl
    · exact h1
    · exact h2
    · exact h3
    · exact h4)
def mkL (m : Nat) (A : Option Addr) (n cap : Nat) (vo vn vr : Value) (km : Nat) (l : List Ov) (kn : Names) (pl : Pl) : List Own :=
  [.blk m 82 [.slice A n cap, vo, vn, vr, .map (some km)], .row vo 45 7 l.length (rowC opC l), .kmap km strK (vmap nI kn), plO pl]
abbrev msO (l : List Ov) (kn : Names) : Ms := ⟨l.map Ov.o, kn⟩
def ExC (t : Tv) : Prop := ∀ (rs : List Rv) (cap : Nat) (A : Option Addr) (m km : Nat) (vo vn vr : Value) (l : List Ov) (kn : Names) (pl : Pl) (c : Zone) (w : World), TvOk c t → okNd t.nd = true → Row c (.slice A rs.length cap) 10 rs.length (rowC rvC rs) → rs.length ≤ 64 → KnOk (msO l kn) → l.length + t.size ≤ 34359738368 → OvsOk (pz pl) l → TabW w → TbC c →
  c.le (off w (blksOf (mkL m A rs.length cap vo vn vr km l kn pl))) → Mine w (mkL m A rs.length cap vo vn vr km l kn pl) →
  Fun Tryz.prog 31 [Pp m 0, .agg (tvC t).toArray] w fun v w' => ∃ vo2 l2 kn2 pl2, v = .int .i64 (((exprM (rs.map Rv.rl) t.nd (msO l kn)).1 : Nat) : Int) ∧ (exprM (rs.map Rv.rl) t.nd (msO l kn)).2 = msO l2 kn2 ∧ (pz pl).le (pz pl2) ∧ OvsOk (pz pl2) l2 ∧
    Turn w w' (mkL m A rs.length cap vo vn vr km l kn pl) (mkL m A rs.length cap vo2 vn vr km l2 kn2 pl2)
theorem Tv.lens_le : ∀ s : List Tv, s.length ≤ Tv.sizes s
  | [] => Nat.zero_le _
  | x :: s => by have := Tv.lens_le s; have h2 : 0 < x.size := by rw [Tv.size_subs]; omega
                 rw [Tv.sizes, List.length_cons]; omega
theorem Tv.len_le (t : Tv) : t.subs.length + 1 ≤ t.size := by rw [Tv.size_subs]; have := Tv.lens_le t.subs; omega
theorem addM_old {o : Op} {S : Ms} {i : Nat} (h : getT S.kn (keyF o) = some i) : addM o S = (i, S) := by unfold addM; rw [h]
theorem addM_new {o : Op} {S : Ms} (h : getT S.kn (keyF o) = none) : addM o S = (S.ops.length, ⟨S.ops ++ [o], putT S.kn (keyF o) S.ops.length⟩) := by unfold addM; rw [h]
theorem findF_rng (t : List UInt8) {rs : List Rl} (h : rs.length ≤ 64) : I64 (findF t rs) := by
  have := findF_in t h
  unfold InI at this; unfold I64; omega

theorem MExpr_step (t : Tv) (IH : ∀ x ∈ t.subs, ExC x) : ExC t := by
 intro rs cap A m km vo vn vr l kn pl c w hok hnd hT h64 hkn hsz hov hP hZ hc hM
 have hsl := Tv.len_le t
 have hpa := okNd_parts hnd
 have h255 := okHd_text hpa.1
 obtain ⟨Ax, cx, hx9, hx1, hx2⟩ := hok.row.form
 have hml : maxLen ≤ 9223372036854775807 := by unfold maxLen; decide
 refine fun_of_sw Tryz.func31 rfl 85 rfl rfl ?_
 have hH := (Hp.start_mine hM).zsub hc
 refine sw_sr <| gl_st (Bx [.int .i64 t.kind, .string (bs t.text), .int .u64 ((t.cl.a : Nat) : Int), .int .u64 ((t.cl.b : Nat) : Int), .int .u64 ((t.cl.c : Nat) : Int), .int .u64 ((t.cl.d : Nat) : Int), .slice t.A t.subs.length t.cap, .int .i64 t.pos] rfl hH ?_)
 clear hH; intro b1 w2 hH
 refine Go0 1 <| Dn <| sw_sr <| Go1 1 11 (Pp b1 0) <| Gq rfl (Lk 4 hH rfl rfl rfl) <| Go1 1 13 (Pp b1 1) <| Gq rfl (Lk 4 hH rfl rfl rfl) <| Go1 1 15 (Pp b1 2) <| Gq rfl (La 4 [.int .u64 ((t.cl.a : Nat) : Int), .int .u64 ((t.cl.b : Nat) : Int), .int .u64 ((t.cl.c : Nat) : Int), .int .u64 ((t.cl.d : Nat) : Int)] hH rfl rfl) <| Go1 1 17 (.agg #[.int .i64 t.kind, .string (bs t.text), .int .u64 ((t.cl.a : Nat) : Int), .int .u64 ((t.cl.b : Nat) : Int), .int .u64 ((t.cl.c : Nat) : Int), .int .u64 ((t.cl.d : Nat) : Int), .slice none 0 0]) <| gl_st (Alc [.int .i64 0, .string (bs []), .int .u64 0, .int .u64 0, .int .u64 0, .int .u64 0, .slice none 0 0] rfl hH ?_)
 clear hH; intro b3 w4 hH
 refine gl_st (Ka 5 [.int .i64 t.kind, .string (bs t.text), .int .u64 ((t.cl.a : Nat) : Int), .int .u64 ((t.cl.b : Nat) : Int), .int .u64 ((t.cl.c : Nat) : Int), .int .u64 ((t.cl.d : Nat) : Int), .slice none 0 0] [.int .i64 t.kind, .string (bs t.text), .int .u64 ((t.cl.a : Nat) : Int), .int .u64 ((t.cl.b : Nat) : Int), .int .u64 ((t.cl.c : Nat) : Int), .int .u64 ((t.cl.d : Nat) : Int), .slice none 0 0] rfl hH rfl rfl ?_)
 clear hH; intro w5 hH
 refine Dn <| sw_seq <| sw_sr <| Go1 1 18 (Pp b1 6) <| Gq rfl (Lk 4 hH rfl rfl rfl) <| Gq rfl (Ln (e := 41) rfl) <| Go1 1 21 (.int .i64 0) <| Dn <| sw_block ?_
 replace hH := hH.nilRow 3 1
 replace hH := hH.fr7.fr6.fr7.fr7.fr7.fr7.fr7
 replace hH := (hH.sb (slk (slk (slk (slk (slk (slk (slk sln)))))))).n7
 refine Lp (γ := Nat × List Int × Value × List Ov × Names × Pl × Value) hH (fun (i, ks, vN, lN, nN, pN, xk) => [(0, Pp m 0), (3, Pp b1 0), (5, Pp b3 0), (19, .slice t.A t.subs.length t.cap), (20, Ni t.subs.length), (21, Ni i)]) (fun (i, ks, vN, lN, nN, pN, xk) w_ H_ => (kidsM (rs.map Rv.rl) (Tv.nds t.subs) (msO l kn) = (ks ++ (kidsM (rs.map Rv.rl) (Tv.nds (t.subs.drop i)) (msO lN nN)).1, (kidsM (rs.map Rv.rl) (Tv.nds (t.subs.drop i)) (msO lN nN)).2)) ∧ (ks.length = i) ∧ (i ≤ t.subs.length) ∧ (KnOk (msO lN nN)) ∧ (lN.length + Tv.sizes (t.subs.drop i) + 1 ≤ 34359738368) ∧ ((pz pl).le (pz pN)) ∧ (OvsOk (pz pN) lN) ∧ (∀ q ∈ ks, I64 q) ∧ H_ [.blk m 82 [.slice A rs.length cap, vN, vn, vr, .map (some km)], .row vN 45 7 lN.length (rowC opC lN), .kmap km strK (vmap nI nN), plO pN, .blk b3 45 [.int .i64 t.kind, .string (bs t.text), .int .u64 ((t.cl.a : Nat) : Int), .int .u64 ((t.cl.b : Nat) : Int), .int .u64 ((t.cl.c : Nat) : Int), .int .u64 ((t.cl.d : Nat) : Int), xk], .blk b1 41 [.int .i64 t.kind, .string (bs t.text), .int .u64 ((t.cl.a : Nat) : Int), .int .u64 ((t.cl.b : Nat) : Int), .int .u64 ((t.cl.c : Nat) : Int), .int .u64 ((t.cl.d : Nat) : Int), .slice t.A t.subs.length t.cap, .int .i64 t.pos], .row xk 3 1 ks.length (rowC iC ks)]) (fun (i, ks, vN, lN, nN, pN, xk) => t.subs.length - i) (0, [], vo, l, kn, pl, .slice none 0 0) ?_ ?_
 · exact ⟨rfl, rfl, Nat.zero_le _, hkn, (by rw [List.drop_zero]; rw [Tv.size_subs] at hsz; omega), Zone.le.refl _, hov, (fun q hq => by cases hq), hH⟩
 clear hH
 rintro ⟨i, ks, vN, lN, nN, pN, xk⟩ w6 ⟨hks, hkl, hi, hkn, hsz, hpN, hov, hki, hH⟩
 refine swk [(0, Pp m 0), (3, Pp b1 0), (5, Pp b3 0), (19, .slice t.A t.subs.length t.cap), (20, Ni t.subs.length), (21, Ni i)] <| sw_sr <| Go1 1 22 (.bool (decide ((i : Int) < ((t.subs.length : Nat) : Int)))) <| Dn <| sw_seq <| If rfl (fun hc1 => ?_) (fun hc1 => ?_)
 refine Sk <| sw_seq <| sw_block ?_
 obtain ⟨x, hx⟩ : ∃ x, t.subs[i]? = some x := ⟨_, List.getElem?_eq_getElem (by omega)⟩
 have hxm := List.mem_of_getElem? hx
 have hsa0 := Tv.sizes_at hx
 refine sw_sr ?_
 obtain ⟨p7, hi9, hp8⟩ := hok.row.idx i (by omega) (by decide)
 refine Gq rfl (Ix (e := 41) 8 rfl rfl hi9) <| Gq rfl (rd_loadZA (by kernel_rfl) hH hp8 rfl 0 rfl [.int .i64 x.kind, .string (bs x.text), .int .u64 ((x.cl.a : Nat) : Int), .int .u64 ((x.cl.b : Nat) : Int), .int .u64 ((x.cl.c : Nat) : Int), .int .u64 ((x.cl.d : Nat) : Int), .slice x.A x.subs.length x.cap, .int .i64 x.pos] (by kernel_rfl) (rowC_all tvC_len hx 0 _ rfl)) <| gl_st (Alc [.int .i64 0, .string (bs []), .int .u64 0, .int .u64 0, .int .u64 0, .int .u64 0, .slice none 0 0, .int .i64 0] rfl hH ?_)
 clear hH; intro b10 w11 hH
 refine gl_st (Ka 7 [.int .i64 x.kind, .string (bs x.text), .int .u64 ((x.cl.a : Nat) : Int), .int .u64 ((x.cl.b : Nat) : Int), .int .u64 ((x.cl.c : Nat) : Int), .int .u64 ((x.cl.d : Nat) : Int), .slice x.A x.subs.length x.cap, .int .i64 x.pos] [.int .i64 x.kind, .string (bs x.text), .int .u64 ((x.cl.a : Nat) : Int), .int .u64 ((x.cl.b : Nat) : Int), .int .u64 ((x.cl.c : Nat) : Int), .int .u64 ((x.cl.d : Nat) : Int), .slice x.A x.subs.length x.cap, .int .i64 x.pos] rfl hH rfl rfl ?_)
 clear hH; intro w12 hH
 refine Dn <| Dr hH (slc (slc (slc (slc (slc (slk (slc (slk sln)))))))) ?_
 clear hH; intro w13 hH hS9
 refine Gp2 2 [0,2] 25 (Pp b3 6) 27 (Pp m 0) hS9 <| Dq 3 rfl (fun _ hS => (La 1 [.int .i64 x.kind, .string (bs x.text), .int .u64 ((x.cl.a : Nat) : Int), .int .u64 ((x.cl.b : Nat) : Int), .int .u64 ((x.cl.c : Nat) : Int), .int .u64 ((x.cl.d : Nat) : Int), .slice x.A x.subs.length x.cap, .int .i64 x.pos] hS rfl rfl)) hS9 <| gd_st2 1 4 (by kernel_rfl) ?_ ?_
 refine st_q rfl rfl rfl (Lk 4 hH rfl rfl rfl) <| Nl hS9 fun hS9 => gdk [(0, Pp m 0), (3, Pp b1 0), (5, Pp b3 0), (19, .slice t.A t.subs.length t.cap), (20, Ni t.subs.length), (21, Ni i), (26, xk), (27, Pp m 0), (28, .agg #[.int .i64 x.kind, .string (bs x.text), .int .u64 ((x.cl.a : Nat) : Int), .int .u64 ((x.cl.b : Nat) : Int), .int .u64 ((x.cl.c : Nat) : Int), .int .u64 ((x.cl.d : Nat) : Int), .slice x.A x.subs.length x.cap, .int .i64 x.pos])] ?_
 replace hH : Hp w w13 _ _ ([_, _, _, _] ++ [_, _, _, _]) := hH
 refine gds 4 (Sc rfl rfl (IH x hxm rs cap A m km vN vn vr lN nN pN c _ (hok.subs x hxm) (hpa.2 x hxm) hT h64 hkn (by omega) hov (tab_now hP hZ hc hH) hZ hH.zoff hH.mine) ?_)
 rintro _ w21 ⟨vo14, l15, kn16, pl17, rfl, hS18, hpz19, hov20, hF22⟩
 replace hH := hH.turns hF22
 replace hH := hH.n8
 refine Nl (hH.sb (slc (slk (slc (slk sln))))) fun hS9 => ?_
 have hE := ex_ok (rs.map Rv.rl) x.nd (msO lN nN) hkn
 rw [hS18] at hE
 simp only [List.length_map] at hE
 have hsa := Tv.sizes_at hx
 rw [Tv.nd_size] at hE
 have hn64 : I64 (((exprM (rs.map Rv.rl) x.nd (msO lN nN)).1 : Nat) : Int) := by have := hE.2.1; unfold I64; omega
 refine gds 5 (st_buildS (e := 3) (zv := .int .i64 0) (m := 1) (bytes := 8) rfl rfl rfl (by kernel_rfl) (by kernel_rfl) rfl (cs := [Ni ((exprM (rs.map Rv.rl) x.nd (msO lN nN)).1)]) (by kernel_rfl) rfl hH ?_)
 clear hH; intro b23 w24 hH
 replace hH := hH.n9
 refine Nl (hH.sb (slc (slk (slc (slk sln))))) fun hS9 => gds 6 (Apd (e := 3) (.int .i64 0) 1 8 2 rfl hH rfl rfl rfl (hH.row_reads 8 rfl) (by simp [Value.oneCell']) (by unfold maxLen; omega) (by omega) ?_)
 clear hH; intro v25 w26 hH
 replace hH := hH.row_eq 2 (l' := (ks ++ [((exprM (rs.map Rv.rl) x.nd (msO lN nN)).1 : Int)]).length) (xs' := rowC iC (ks ++ [((exprM (rs.map Rv.rl) x.nd (msO lN nN)).1 : Int)])) rfl (by simp) (by rw [← rowC_app, rowC_one]; rfl)
 obtain ⟨A27, c28, rfl, hl29, hm30⟩ := hH.row_form 2 rfl
 replace hH := hH.n9
 refine Nl (hH.sb (slc (slk (slc (slk sln))))) fun hS9 => Gp1 1 [7] 32 (Pp b3 6) hS9 <| gds 8 (Ks 0 (.slice A27 ((ks ++ [((exprM (rs.map Rv.rl) x.nd (msO lN nN)).1 : Int)]).length) c28) rfl hH rfl rfl ?_)
 clear hH; intro w31 hH
 replace hH := hH.n9
 refine Nl (hH.sb (slc (slk (slc (slk sln))))) fun hS9 => gdn [(0, Pp m 0), (3, Pp b1 0), (5, Pp b3 0), (19, .slice t.A t.subs.length t.cap), (20, Ni t.subs.length), (21, Ni i)] <| bkN <| sw_next <| sw_region <| Gw0 1 33 ((i : Int) + 1) ((i + 1 : Nat) : Int) <| Go1 1 21 (Ni (i + 1)) <| Dd <| rnd_end (g := (i, ks, vN, lN, nN, pN, xk)) (i + 1, ks ++ [((exprM (rs.map Rv.rl) x.nd (msO lN nN)).1 : Int)], vo14, l15, kn16, pl17, (.slice A27 ((ks ++ [((exprM (rs.map Rv.rl) x.nd (msO lN nN)).1 : Int)]).length) c28)) (by kernel_rfl) ?_ ?_
 replace hH := hH.fr3.fr3.fr3.fr8.fr8.fr8.fr8
 replace hH := (hH.sb (slk (slk (slk (slk (slk (slk (slk sln)))))))).n7
 · exact ⟨by rw [hks, kidsM_at hx, hS18, List.append_assoc]; rfl, by rw [List.length_append, List.length_singleton]; omega, by omega, hE.1, by omega, hpN.trans hpz19, hov20, (fun q hq => by rcases List.mem_append.1 hq with hq | hq; exact hki q hq; rw [List.mem_singleton.1 hq]; exact hn64), hH⟩
 · show t.subs.length - (i + 1) < t.subs.length - i; omega
 replace hH : Hp w w13 _ _ ([_, _, _, _] ++ [_, _, _, _]) := hH
 refine Sc rfl rfl (IH x hxm rs cap A m km vN vn vr lN nN pN c _ (hok.subs x hxm) (hpa.2 x hxm) hT h64 hkn (by omega) hov (tab_now hP hZ hc hH) hZ hH.zoff hH.mine) ?_
 rintro _ w39 ⟨vo32, l33, kn34, pl35, rfl, hS36, hpz37, hov38, hF40⟩
 replace hH := hH.turns hF40
 replace hH := hH.n8
 refine Nl (hH.sb (slc (slk (slc (slk sln))))) fun hS9 => ?_
 have hE := ex_ok (rs.map Rv.rl) x.nd (msO lN nN) hkn
 rw [hS36] at hE
 simp only [List.length_map] at hE
 have hsa := Tv.sizes_at hx
 rw [Tv.nd_size] at hE
 have hn64 : I64 (((exprM (rs.map Rv.rl) x.nd (msO lN nN)).1 : Nat) : Int) := by have := hE.2.1; unfold I64; omega
 refine gdk [(0, Pp m 0), (3, Pp b1 0), (5, Pp b3 0), (19, .slice t.A t.subs.length t.cap), (20, Ni t.subs.length), (21, Ni i), (25, Pp b3 6), (29, Ni ((exprM (rs.map Rv.rl) x.nd (msO lN nN)).1))] <| gd_st2 1 5 (by kernel_rfl) ?_ ?_
 refine st_q rfl rfl rfl (Lk 0 hH rfl rfl rfl) <| Nl hS9 fun hS9 => gdk [(0, Pp m 0), (3, Pp b1 0), (5, Pp b3 0), (19, .slice t.A t.subs.length t.cap), (20, Ni t.subs.length), (21, Ni i), (26, xk), (29, Ni ((exprM (rs.map Rv.rl) x.nd (msO lN nN)).1))] <| gds 5 (st_buildS (e := 3) (zv := .int .i64 0) (m := 1) (bytes := 8) rfl rfl rfl (by kernel_rfl) (by kernel_rfl) rfl (cs := [Ni ((exprM (rs.map Rv.rl) x.nd (msO lN nN)).1)]) (by kernel_rfl) rfl hH ?_)
 clear hH; intro b41 w42 hH
 replace hH := hH.n9
 refine Nl (hH.sb (slc (slk (slc (slk sln))))) fun hS9 => gds 6 (Apd (e := 3) (.int .i64 0) 1 8 2 rfl hH rfl rfl rfl (hH.row_reads 8 rfl) (by simp [Value.oneCell']) (by unfold maxLen; omega) (by omega) ?_)
 clear hH; intro v43 w44 hH
 replace hH := hH.row_eq 2 (l' := (ks ++ [((exprM (rs.map Rv.rl) x.nd (msO lN nN)).1 : Int)]).length) (xs' := rowC iC (ks ++ [((exprM (rs.map Rv.rl) x.nd (msO lN nN)).1 : Int)])) rfl (by simp) (by rw [← rowC_app, rowC_one]; rfl)
 obtain ⟨A45, c46, rfl, hl47, hm48⟩ := hH.row_form 2 rfl
 replace hH := hH.n9
 refine Nl (hH.sb (slc (slk (slc (slk sln))))) fun hS9 => Gp1 1 [7] 32 (Pp b3 6) hS9 <| gds 8 (Ks 0 (.slice A45 ((ks ++ [((exprM (rs.map Rv.rl) x.nd (msO lN nN)).1 : Int)]).length) c46) rfl hH rfl rfl ?_)
 clear hH; intro w49 hH
 replace hH := hH.n9
 refine Nl (hH.sb (slc (slk (slc (slk sln))))) fun hS9 => gdn [(0, Pp m 0), (3, Pp b1 0), (5, Pp b3 0), (19, .slice t.A t.subs.length t.cap), (20, Ni t.subs.length), (21, Ni i)] <| bkN <| sw_next <| sw_region <| Gw0 1 33 ((i : Int) + 1) ((i + 1 : Nat) : Int) <| Go1 1 21 (Ni (i + 1)) <| Dd <| rnd_end (g := (i, ks, vN, lN, nN, pN, xk)) (i + 1, ks ++ [((exprM (rs.map Rv.rl) x.nd (msO lN nN)).1 : Int)], vo32, l33, kn34, pl35, (.slice A45 ((ks ++ [((exprM (rs.map Rv.rl) x.nd (msO lN nN)).1 : Int)]).length) c46)) (by kernel_rfl) ?_ ?_
 replace hH := hH.fr3.fr3.fr3.fr8.fr8.fr8.fr8
 replace hH := (hH.sb (slk (slk (slk (slk (slk (slk (slk sln)))))))).n7
 · exact ⟨by rw [hks, kidsM_at hx, hS36, List.append_assoc]; rfl, by rw [List.length_append, List.length_singleton]; omega, by omega, hE.1, by omega, hpN.trans hpz37, hov38, (fun q hq => by rcases List.mem_append.1 hq with hq | hq; exact hki q hq; rw [List.mem_singleton.1 hq]; exact hn64), hH⟩
 · show t.subs.length - (i + 1) < t.subs.length - i; omega
 refine st_buildS (e := 3) (zv := .int .i64 0) (m := 1) (bytes := 8) rfl rfl rfl (by kernel_rfl) (by kernel_rfl) rfl (cs := [Ni ((exprM (rs.map Rv.rl) x.nd (msO lN nN)).1)]) (by kernel_rfl) rfl hH ?_
 clear hH; intro b50 w51 hH
 replace hH := hH.n9
 refine Nl (hH.sb (slc (slk (slc (slk sln))))) fun hS9 => gdk [(0, Pp m 0), (3, Pp b1 0), (5, Pp b3 0), (19, .slice t.A t.subs.length t.cap), (20, Ni t.subs.length), (21, Ni i), (25, Pp b3 6), (30, .slice (some ⟨b50, 0, none⟩) 1 1)] <| gds 1 (st_q rfl rfl rfl (Lk 0 hH rfl rfl rfl) ?_)
 refine Nl hS9 fun hS9 => gds 6 (Apd (e := 3) (.int .i64 0) 1 8 2 rfl hH rfl rfl rfl (hH.row_reads 8 rfl) (by simp [Value.oneCell']) (by unfold maxLen; omega) (by omega) ?_)
 clear hH; intro v52 w53 hH
 replace hH := hH.row_eq 2 (l' := (ks ++ [((exprM (rs.map Rv.rl) x.nd (msO lN nN)).1 : Int)]).length) (xs' := rowC iC (ks ++ [((exprM (rs.map Rv.rl) x.nd (msO lN nN)).1 : Int)])) rfl (by simp) (by rw [← rowC_app, rowC_one]; rfl)
 obtain ⟨A54, c55, rfl, hl56, hm57⟩ := hH.row_form 2 rfl
 replace hH := hH.n9
 refine Nl (hH.sb (slc (slk (slc (slk sln))))) fun hS9 => Gp1 1 [7] 32 (Pp b3 6) hS9 <| gds 8 (Ks 0 (.slice A54 ((ks ++ [((exprM (rs.map Rv.rl) x.nd (msO lN nN)).1 : Int)]).length) c55) rfl hH rfl rfl ?_)
 clear hH; intro w58 hH
 replace hH := hH.n9
 refine Nl (hH.sb (slc (slk (slc (slk sln))))) fun hS9 => gdn [(0, Pp m 0), (3, Pp b1 0), (5, Pp b3 0), (19, .slice t.A t.subs.length t.cap), (20, Ni t.subs.length), (21, Ni i)] <| bkN <| sw_next <| sw_region <| Gw0 1 33 ((i : Int) + 1) ((i + 1 : Nat) : Int) <| Go1 1 21 (Ni (i + 1)) <| Dd <| rnd_end (g := (i, ks, vN, lN, nN, pN, xk)) (i + 1, ks ++ [((exprM (rs.map Rv.rl) x.nd (msO lN nN)).1 : Int)], vo32, l33, kn34, pl35, (.slice A54 ((ks ++ [((exprM (rs.map Rv.rl) x.nd (msO lN nN)).1 : Int)]).length) c55)) (by kernel_rfl) ?_ ?_
 replace hH := hH.fr3.fr3.fr3.fr8.fr8.fr8.fr8
 replace hH := (hH.sb (slk (slk (slk (slk (slk (slk (slk sln)))))))).n7
 · exact ⟨by rw [hks, kidsM_at hx, hS36, List.append_assoc]; rfl, by rw [List.length_append, List.length_singleton]; omega, by omega, hE.1, by omega, hpN.trans hpz37, hov38, (fun q hq => by rcases List.mem_append.1 hq with hq | hq; exact hki q hq; rw [List.mem_singleton.1 hq]; exact hn64), hH⟩
 · show t.subs.length - (i + 1) < t.subs.length - i; omega
 refine sw_exit <| thX <| thX <| bkH <| sw_next ?_
 have hk0 : kidsM (rs.map Rv.rl) (Tv.nds t.subs) (msO l kn) = (ks, msO lN nN) := by rw [hks, List.drop_eq_nil_of_le (by omega), Tv.nds, kidsM, List.append_nil]
 have hi2 : i = t.subs.length := by omega
 clear hks
 refine Cu (γ := Ov × Pl) hH (fun (y, p3) => [(0, Pp m 0), (5, Pp b3 0)]) (fun (y, p3) w_ H_ => (y.o = opM (rs.map Rv.rl) t.kind t.text t.cl ks) ∧ ((pz pN).le (pz p3)) ∧ (OvOk (pz p3) y) ∧ (y.o.t.length ≤ 255) ∧ (y.o.s.length ≤ t.subs.length + 1) ∧ H_ [.blk m 82 [.slice A rs.length cap, vN, vn, vr, .map (some km)], .row vN 45 7 lN.length (rowC opC lN), .kmap km strK (vmap nI nN), plO p3, .blk b3 45 [.int .i64 y.o.k, .string (bs y.o.t), .int .u64 ((y.o.c.a : Nat) : Int), .int .u64 ((y.o.c.b : Nat) : Int), .int .u64 ((y.o.c.c : Nat) : Int), .int .u64 ((y.o.c.d : Nat) : Int), .slice y.A y.o.s.length y.cap]]) ?_ ?_
 ·
  refine sw_sr <| Go1 1 34 (Pp b1 0) <| Gq rfl (Lk 5 hH rfl rfl rfl) <| Go1 1 36 (.bool ((t.kind : Int) == (5 : Int))) <| Dn <| If rfl (fun hc2 => ?_) (fun hc2 => ?_)
  have hk5 : t.kind = 5 := by have := hc2; omega
  refine Dr hH (slk (slk (slk (slk (slc (slk (slk sln))))))) ?_
  clear hH; intro w59 hH hS9
  refine Gp1 3 [0,1,2] 39 (Pp m 0) hS9 <| Dq 3 rfl (fun _ hS => (La 0 [.slice A rs.length cap] hS rfl rfl)) hS9 <| Gp1 1 [4] 41 (Pp b1 1) hS9 <| Dq 5 rfl (fun _ hS => (Lk 4 hS rfl rfl rfl)) hS9 <| Gp1 1 [8] 45 (Pp b3 1) hS9 <| gds 6 (Sc rfl rfl (SFind_ct rs t.text cap A c _ hH.zin hT) ?_)
  rintro _ w60 ⟨rfl, hF61⟩
  replace hH := hH.call hF61
  refine Nl (hH.sb (slk (slk (slk (slk (slc (slk (slk sln)))))))) fun hS9 => gd_st2 7 9 (by kernel_rfl) ?_ ?_
  refine st_buildS (e := 3) (zv := .int .i64 0) (m := 1) (bytes := 8) rfl rfl rfl (by kernel_rfl) (by kernel_rfl) rfl (cs := [.int .i64 (findF t.text (rs.map Rv.rl))]) (by kernel_rfl) rfl hH ?_
  clear hH; intro b62 w63 hH
  refine Nl (hH.sb (slk (slk (slk (slk (slc (slk (slk sln)))))))) fun hS9 => gdk [(0, Pp m 0), (5, Pp b3 0), (44, .slice (some ⟨b62, 0, none⟩) 1 1), (45, Pp b3 1)] <| gds 9 (Ks 4 (.string (bs [])) rfl hH rfl rfl ?_)
  clear hH; intro w64 hH
  refine Nl (hH.sb (slk (slk (slk (slk (slc (slk (slk sln)))))))) fun hS9 => Gp1 1 [10] 46 (Pp b3 6) hS9 <| gds 11 (Ks 4 (.slice (some ⟨b62, 0, none⟩) 1 1) rfl hH rfl rfl ?_)
  clear hH; intro w65 hH
  refine Nl (hH.sb (slk (slk (slk (slk (slc (slk (slk sln)))))))) fun hS9 => gdn [(0, Pp m 0), (5, Pp b3 0)] ?_
  replace hH := hH.fr4.fr8
  obtain ⟨pl66, hp67, hH⟩ := pl_add hH
  replace hH := hH.fr5.fr2.fr5.fr5.fr5
  replace hH := (hH.sb (slk (slk (slk (slk (slk sln)))))).n5
  have hcx : (⟨⟨t.kind, [], t.cl, [findF t.text (rs.map Rv.rl)]⟩, (some ⟨b62, 0, none⟩), 1⟩ : Ov).o = opM (rs.map Rv.rl) t.kind t.text t.cl ks := by show (⟨t.kind, [], t.cl, [findF t.text (rs.map Rv.rl)]⟩ : Op) = _; unfold opM; rw [if_pos hk5]
  refine Ce (⟨⟨t.kind, [], t.cl, [findF t.text (rs.map Rv.rl)]⟩, (some ⟨b62, 0, none⟩), 1⟩, pN ++ pl66) ?_
  exact ⟨hcx, pz_app _ _, (OvOk.mk hok.cls hp67 (Nat.zero_le _) hok.kind (fun q hq => by rw [List.mem_singleton.1 hq]; exact findF_rng _ (by rw [List.length_map]; exact h64))), (by first | exact h255 | exact Nat.zero_le _), (by first | (show ks.length ≤ _; omega) | (show 1 ≤ _; omega)), hH⟩
  refine Ks 4 (.string (bs [])) rfl hH rfl rfl ?_
  clear hH; intro w68 hH
  refine Nl (hH.sb (slk (slk (slk (slk (slc (slk (slk sln)))))))) fun hS9 => gdk [(0, Pp m 0), (5, Pp b3 0), (43, .int .i64 (findF t.text (rs.map Rv.rl)))] <| gds 7 (st_buildS (e := 3) (zv := .int .i64 0) (m := 1) (bytes := 8) rfl rfl rfl (by kernel_rfl) (by kernel_rfl) rfl (cs := [.int .i64 (findF t.text (rs.map Rv.rl))]) (by kernel_rfl) rfl hH ?_)
  clear hH; intro b69 w70 hH
  refine Nl (hH.sb (slk (slk (slk (slk (slc (slk (slk sln)))))))) fun hS9 => Gp1 1 [10] 46 (Pp b3 6) hS9 <| gds 11 (Ks 4 (.slice (some ⟨b69, 0, none⟩) 1 1) rfl hH rfl rfl ?_)
  clear hH; intro w71 hH
  refine Nl (hH.sb (slk (slk (slk (slk (slc (slk (slk sln)))))))) fun hS9 => gdn [(0, Pp m 0), (5, Pp b3 0)] ?_
  replace hH := hH.fr4.fr8
  obtain ⟨pl72, hp73, hH⟩ := pl_add hH
  replace hH := hH.fr5.fr2.fr5.fr5.fr5
  replace hH := (hH.sb (slk (slk (slk (slk (slk sln)))))).n5
  have hcx : (⟨⟨t.kind, [], t.cl, [findF t.text (rs.map Rv.rl)]⟩, (some ⟨b69, 0, none⟩), 1⟩ : Ov).o = opM (rs.map Rv.rl) t.kind t.text t.cl ks := by show (⟨t.kind, [], t.cl, [findF t.text (rs.map Rv.rl)]⟩ : Op) = _; unfold opM; rw [if_pos hk5]
  refine Ce (⟨⟨t.kind, [], t.cl, [findF t.text (rs.map Rv.rl)]⟩, (some ⟨b69, 0, none⟩), 1⟩, pN ++ pl72) ?_
  exact ⟨hcx, pz_app _ _, (OvOk.mk hok.cls hp73 (Nat.zero_le _) hok.kind (fun q hq => by rw [List.mem_singleton.1 hq]; exact findF_rng _ (by rw [List.length_map]; exact h64))), (by first | exact h255 | exact Nat.zero_le _), (by first | (show ks.length ≤ _; omega) | (show 1 ≤ _; omega)), hH⟩
  have hk5 : ¬ t.kind = 5 := by have := hc2; omega
  refine sw_skip ?_
  obtain ⟨A74, c75, rfl, hl76, hm77⟩ := hH.row_form 6 rfl
  replace hH := hH.fr4.fr7
  obtain ⟨pl78, hp79, hH⟩ := pl_add hH
  replace hH := hH.fr5.fr2.fr5.fr5.fr5
  replace hH := (hH.sb (slk (slk (slk (slk (slk sln)))))).n5
  have hcx : (⟨⟨t.kind, t.text, t.cl, ks⟩, A74, c75⟩ : Ov).o = opM (rs.map Rv.rl) t.kind t.text t.cl ks := by show (⟨t.kind, t.text, t.cl, ks⟩ : Op) = _; unfold opM; rw [if_neg hk5]
  refine Ce (⟨⟨t.kind, t.text, t.cl, ks⟩, A74, c75⟩, pN ++ pl78) ?_
  exact ⟨hcx, pz_app _ _, (OvOk.mk hok.cls hp79 hok.text hok.kind hki), (by first | exact h255 | exact Nat.zero_le _), (by first | (show ks.length ≤ _; omega) | (show 1 ≤ _; omega)), hH⟩
 clear hH
 rintro ⟨y, p3⟩ w80 ⟨hy, hp3, hyo, hyt, hys, hH⟩
 refine swk [(0, Pp m 0), (5, Pp b3 0)] <| sw_sr <| Gq rfl (La 4 [.int .i64 y.o.k, .string (bs y.o.t), .int .u64 ((y.o.c.a : Nat) : Int), .int .u64 ((y.o.c.b : Nat) : Int), .int .u64 ((y.o.c.c : Nat) : Int), .int .u64 ((y.o.c.d : Nat) : Int), .slice y.A y.o.s.length y.cap] hH rfl rfl) <| gl_st (Sc rfl rfl (CKey_ct y _ _ (Zone.le.refl _) (tab_now hP hZ hc hH) (hZ.mono hH.zin) (hyo.mono (pz_le hH 3 rfl)) (by omega)) ?_)
 rintro _ w81 ⟨rfl, hF82⟩
 replace hH := hH.call hF82
 refine Go1 1 8 (.string (bs (keyF y.o))) <| Dn <| sw_sr <| Go1 3 52 (Pp m 4) <| Gq rfl (Lk 0 hH rfl rfl rfl) <| Go1 1 54 (.string (bs (keyF y.o))) <| Gq rfl (rd_mapgetOk (kt := 9) (e := 3) (zv := .int .i64 0) 2 (by kernel_rfl) (by kernel_rfl) strK_key (by kernel_rfl) hH rfl rfl (keyF y.o) rfl) <| gl_cv 55 (.tuple #[Ni ((getT nN (keyF y.o)).getD 0), .bool ((kget (vmap nI nN) (keyF y.o)).isSome)]) ((congrArg (fun v => Value.tuple #[v, _]) (kget_D nI _ _ 0))) rfl <| Go2 5 9 (Ni ((getT nN (keyF y.o)).getD 0)) 10 (.bool ((kget (vmap nI nN) (keyF y.o)).isSome)) <| Dn <| sw_seq <| sw_sr <| Go1 2 59 (.bool (!((kget (vmap nI nN) (keyF y.o)).isSome))) <| Dn <| If rfl (fun hc3 => ?_) (fun hc3 => ?_)
 have hj : getT nN (keyF y.o) = none := by have h9 := hc3; rw [kget_some] at h9; simpa using h9
 obtain ⟨A83, c84, rfl, hl85, hm86⟩ := hH.row_form 1 rfl
 refine sw_sr <| Go1 4 63 (Pp m 1) <| Gq rfl (Lk 0 hH rfl rfl rfl) <| Gq rfl (Ln (e := 45) rfl) <| Go1 1 9 (Ni lN.length) <| Dn <| sw_sr <| Go1 3 68 (Pp m 4) <| Gq rfl (Lk 0 hH rfl rfl rfl) <| Go2 2 70 (.string (bs (keyF y.o))) 71 (Ni lN.length) <| gl_st (st_mapset (kt := 9) (e := 3) (v := Ni lN.length) 2 rfl rfl rfl (by kernel_rfl) (by kernel_rfl) strK_key hH rfl rfl (keyF y.o) rfl rfl ?_)
 clear hH; intro w87 hH
 replace hH := hH.cast (os' := [.blk m 82 [.slice A rs.length cap, .slice A83 lN.length c84, vn, vr, .map (some km)], .row (.slice A83 lN.length c84) 45 7 lN.length (rowC opC lN), .kmap km strK (vmap nI (putT nN (keyF y.o) lN.length)), plO p3, .blk b3 45 [.int .i64 y.o.k, .string (bs y.o.t), .int .u64 ((y.o.c.a : Nat) : Int), .int .u64 ((y.o.c.b : Nat) : Int), .int .u64 ((y.o.c.c : Nat) : Int), .int .u64 ((y.o.c.d : Nat) : Int), .slice y.A y.o.s.length y.cap]]) (by rw [show Ni lN.length = nI lN.length from rfl, kputK_vmap]; rfl)
 refine Dn <| Dr hH (slc (slc (slk (slk (slk sln))))) ?_
 clear hH; intro w88 hH hS9
 refine Gp2 5 [0,1,2,3,4] 72 (Pp m 0) 76 (Pp m 1) hS9 <| Dq 6 rfl (fun _ hS => (La 2 [.int .i64 y.o.k, .string (bs y.o.t), .int .u64 ((y.o.c.a : Nat) : Int), .int .u64 ((y.o.c.b : Nat) : Int), .int .u64 ((y.o.c.c : Nat) : Int), .int .u64 ((y.o.c.d : Nat) : Int), .slice y.A y.o.s.length y.cap] hS rfl rfl)) hS9 <| gd_st2 5 7 (by kernel_rfl) ?_ ?_
 refine st_q rfl rfl rfl (Lk 0 hH rfl rfl rfl) <| Nl hS9 fun hS9 => gdk [(9, Ni lN.length), (72, Pp m 0), (77, .slice A83 lN.length c84), (78, .agg #[.int .i64 y.o.k, .string (bs y.o.t), .int .u64 ((y.o.c.a : Nat) : Int), .int .u64 ((y.o.c.b : Nat) : Int), .int .u64 ((y.o.c.c : Nat) : Int), .int .u64 ((y.o.c.d : Nat) : Int), .slice y.A y.o.s.length y.cap])] <| gds 7 (st_buildS (e := 45) (zv := .agg #[.int .i64 0, .string (bs []), .int .u64 0, .int .u64 0, .int .u64 0, .int .u64 0, .slice none 0 0]) (m := 7) (bytes := 80) rfl rfl rfl (by kernel_rfl) (by kernel_rfl) rfl (cs := [.int .i64 y.o.k, .string (bs y.o.t), .int .u64 ((y.o.c.a : Nat) : Int), .int .u64 ((y.o.c.b : Nat) : Int), .int .u64 ((y.o.c.c : Nat) : Int), .int .u64 ((y.o.c.d : Nat) : Int), .slice y.A y.o.s.length y.cap]) (by kernel_rfl) rfl hH ?_)
 clear hH; intro b89 w90 hH
 refine Nl (hH.sb (slc (slc (slk (slk (slk sln)))))) fun hS9 => gds 8 (Apd (e := 45) (.agg #[.int .i64 0, .string (bs []), .int .u64 0, .int .u64 0, .int .u64 0, .int .u64 0, .slice none 0 0]) 7 80 1 rfl hH rfl rfl rfl (hH.row_reads 5 rfl) (by simp [Value.oneCell']) (by unfold maxLen; omega) (by omega) ?_)
 clear hH; intro v91 w92 hH
 replace hH := hH.row_eq 1 (l' := (lN ++ [y]).length) (xs' := rowC opC (lN ++ [y])) rfl (by simp) (by rw [← rowC_app, rowC_one]; rfl)
 obtain ⟨A93, c94, rfl, hl95, hm96⟩ := hH.row_form 1 rfl
 refine Nl (hH.sb (slc (slc (slk (slk (slk sln)))))) fun hS9 => Gp1 3 [9,10,11] 83 (Pp m 1) hS9 <| gds 12 (Ks 0 (.slice A93 ((lN ++ [y]).length) c94) rfl hH rfl rfl ?_)
 clear hH; intro w97 hH
 refine Nl (hH.sb (slc (slc (slk (slk (slk sln)))))) fun hS9 => gdn [(9, Ni lN.length)] <| sw_next <| sw_sr <| Go1 2 4 (Ni lN.length) <| Dn <| Rt1 rfl rfl ?_
 replace hH := (hH.sb (slk (slk (slk (slk sln))))).n4
 have hAd : exprM (rs.map Rv.rl) t.nd (msO l kn) = (lN.length, msO (lN ++ [y]) (putT nN (keyF y.o) lN.length)) := by rw [exprM_tv, hk0, ← hy, addM_new hj]; simp
 rw [hAd]
 exact ⟨_, lN ++ [y], _, p3, rfl, rfl, hpN.trans hp3, (hov.mono hp3).add hyo, hH.turned⟩
 refine st_buildS (e := 45) (zv := .agg #[.int .i64 0, .string (bs []), .int .u64 0, .int .u64 0, .int .u64 0, .int .u64 0, .slice none 0 0]) (m := 7) (bytes := 80) rfl rfl rfl (by kernel_rfl) (by kernel_rfl) rfl (cs := [.int .i64 y.o.k, .string (bs y.o.t), .int .u64 ((y.o.c.a : Nat) : Int), .int .u64 ((y.o.c.b : Nat) : Int), .int .u64 ((y.o.c.c : Nat) : Int), .int .u64 ((y.o.c.d : Nat) : Int), .slice y.A y.o.s.length y.cap]) (by kernel_rfl) rfl hH ?_
 clear hH; intro b98 w99 hH
 refine Nl (hH.sb (slc (slc (slk (slk (slk sln)))))) fun hS9 => gdk [(9, Ni lN.length), (72, Pp m 0), (76, Pp m 1), (79, .slice (some ⟨b98, 0, none⟩) 1 1)] <| gds 5 (st_q rfl rfl rfl (Lk 0 hH rfl rfl rfl) ?_)
 refine Nl hS9 fun hS9 => gds 8 (Apd (e := 45) (.agg #[.int .i64 0, .string (bs []), .int .u64 0, .int .u64 0, .int .u64 0, .int .u64 0, .slice none 0 0]) 7 80 1 rfl hH rfl rfl rfl (hH.row_reads 5 rfl) (by simp [Value.oneCell']) (by unfold maxLen; omega) (by omega) ?_)
 clear hH; intro v100 w101 hH
 replace hH := hH.row_eq 1 (l' := (lN ++ [y]).length) (xs' := rowC opC (lN ++ [y])) rfl (by simp) (by rw [← rowC_app, rowC_one]; rfl)
 obtain ⟨A102, c103, rfl, hl104, hm105⟩ := hH.row_form 1 rfl
 refine Nl (hH.sb (slc (slc (slk (slk (slk sln)))))) fun hS9 => Gp1 3 [9,10,11] 83 (Pp m 1) hS9 <| gds 12 (Ks 0 (.slice A102 ((lN ++ [y]).length) c103) rfl hH rfl rfl ?_)
 clear hH; intro w106 hH
 refine Nl (hH.sb (slc (slc (slk (slk (slk sln)))))) fun hS9 => gdn [(9, Ni lN.length)] <| sw_next <| sw_sr <| Go1 2 4 (Ni lN.length) <| Dn <| Rt1 rfl rfl ?_
 replace hH := (hH.sb (slk (slk (slk (slk sln))))).n4
 have hAd : exprM (rs.map Rv.rl) t.nd (msO l kn) = (lN.length, msO (lN ++ [y]) (putT nN (keyF y.o) lN.length)) := by rw [exprM_tv, hk0, ← hy, addM_new hj]; simp
 rw [hAd]
 exact ⟨_, lN ++ [y], _, p3, rfl, rfl, hpN.trans hp3, (hov.mono hp3).add hyo, hH.turned⟩
 obtain ⟨j, hj⟩ : ∃ j, getT nN (keyF y.o) = some j := by have h9 := hc3; rw [kget_some] at h9; simpa [Option.isSome_iff_exists] using h9
 refine Sk <| sw_sr <| Go1 2 4 (Ni ((getT nN (keyF y.o)).getD 0)) <| Dn <| Rt1 rfl rfl ?_
 replace hH := (hH.sb (slk (slk (slk (slk sln))))).n4
 have hAd : exprM (rs.map Rv.rl) t.nd (msO l kn) = (j, msO lN nN) := by rw [exprM_tv, hk0, ← hy]; exact addM_old hj
 rw [hAd]
 exact ⟨vN, lN, nN, p3, (by rw [hj]; rfl), rfl, hpN.trans hp3, hov.mono hp3, hH.turned⟩
theorem MExpr_ct (t : Tv) : ExC t := Tv.ind (P := ExC) MExpr_step t

end Go.Proofs.YtllfpnbhjfadiaaGreatDoor
