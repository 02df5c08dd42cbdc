/- Law 19: a save that the power goes away in leaves some prefix: the law's walk. -/
import Derived.Test.YtajapgjemefoiaaGreatDoorGi
set_option maxRecDepth 100000
set_option maxHeartbeats 4000000
set_option linter.unusedVariables false
set_option linter.unusedSimpArgs false
namespace Go.Proofs.YtajapgjemefoiaaGreatDoor
open Go.RowKit Go.SW
theorem and1_le (a : Int) : IntKind.i64.wrap (((BitVec.ofInt 64 a &&& BitVec.ofInt 64 1).toNat : Nat) : Int) ≤ 9223372036854775807 := by
  have h : (BitVec.ofInt 64 a &&& BitVec.ofInt 64 1).toNat ≤ 1 := by rw [BitVec.toNat_and]; exact Nat.and_le_right
  generalize (BitVec.ofInt 64 a &&& BitVec.ofInt 64 1).toNat = k at h
  match k, h with
  | 0, _ => decide
  | 1, _ => decide
theorem puts_step {es : List EA} {c cj c' : Cn} {j : Nat} {e : EA} (h : putsA c es = some c') (hj : putsA c (es.take j) = some cj) (he : es[j]? = some e) :
    0 ≤ e.tm ∧ 0 ≤ e.kd ∧ cj.ix = c.ix ∧ cj.ah = c.ah ∧ (c.ix : Int) < e.ix ∧ e.ix.toNat - 1 ≤ c.ix + cj.es.length ∧ putsA c (es.take (j + 1)) = some { cj with es := cj.es.take (e.ix.toNat - c.ix - 1) ++ [e.en] } := by
  have hl := (List.getElem?_eq_some_iff.1 he).1
  have hg := (List.getElem?_eq_some_iff.1 he).2
  obtain ⟨c2, h1, h2⟩ := putsA_take h j
  rw [hj] at h1
  cases h1
  rw [List.drop_eq_getElem_cons hl, hg, putsA] at h2
  split at h2
  · cases h2
  · obtain ⟨c3, h3, _⟩ := Option.bind_eq_some_iff.1 h2
    obtain ⟨h4, h5, h6⟩ := putC_some h3
    obtain ⟨h7, h8, _⟩ := putsA_len hj
    have e1 : e.en.ix = e.ix.toNat := rfl
    refine ⟨by omega, by omega, h7, h8, by omega, by omega, ?_⟩
    rw [List.take_succ_eq_append_getElem hl, hg, putsA_app, hj]
    show putsA cj [e] = _
    rw [putsA, if_neg (by omega), h3, h6, e1, h7]; rfl
theorem en_cells {e : EA} (h1 : 0 ≤ e.ix) (h2 : 0 ≤ e.tm) (h3 : 0 ≤ e.kd) (v : Value) : rowC enC [(e.en, v)] = [.int .i64 e.ix, .int .i64 e.tm, .int .i64 e.kd, v] := by
  have e1 : ((e.en.ix : Nat) : Int) = e.ix := by simp only [EA.en]; omega
  have e2 : ((e.en.tm : Nat) : Int) = e.tm := by simp only [EA.en]; omega
  have e3 : ((e.en.kd : Nat) : Int) = e.kd := by simp only [EA.en]; omega
  show enC (e.en, v) ++ [] = _
  unfold enC
  simp only [List.append_nil]
  rw [e1, e2, e3]
theorem rowC_snoc (K : EQ) (q : En × Value) {cs : List Value} (h : rowC enC [q] = cs) : rowC enC K ++ cs = rowC enC (K ++ [q]) := by rw [← h, rowC_app]
theorem enV_rb {c : Zone} {K : EQ} (h : ∀ q ∈ K, RB c q.2 q.1.d) : EnV K := fun q hq => by
  obtain ⟨A, cp, e, _, _⟩ := (h q hq).row.form
  exact ⟨A, _, cp, e⟩

theorem WalTorn_ct (va : Value) (ac : List AW) (xd xn xm : Int) (xl : Value) (xL : EI) (xk : Value) (xs : List UInt8) (xb : Value) (aq part : Int) (vk : Value) (ks : List Int) (w : World) (hG : w.cell? ⟨0, 0, none⟩ = some errTy) (hA : Row w.cell? va 7 ac.length (rowC awC ac)) (hok : ∀ a ∈ ac, AwOk w.cell? a) (hB : wtW ac + wtA (xL.map (·.1)) ≤ 1048576) (hk : Row w.cell? vk 1 ks.length (iv ks))
    (hxR : Row w.cell? xl 4 xL.length (rowC eiC xL)) (hxq : ∀ q ∈ xL, RB w.cell? q.2 q.1.d) (hxok : ∀ q ∈ xL, EAok q.1) (hxn : xn ≤ 9223372036854775807) (hxm : xm ≤ 9223372036854775807) :
    Fun Tryz.prog 6 [va, .agg #[.int .i64 xd, .int .i64 xn, .int .i64 xm, xl, xk, .string (bs xs), xb], .int .i64 aq, .int .i64 part, vk] w fun v w' => v = .bool true ∧ Fresh w w' [] := by
 obtain ⟨Aa, ca, rfl, ha1, ha2⟩ := hA.form
 have ha3 := ha2
 simp only [maxLen] at ha3
 obtain ⟨Ak, ck, rfl, hk1, hk2⟩ := hk.form
 obtain ⟨Ax, cx, rfl, hx1, hx2⟩ := hxR.form
 have hx3 := hx2
 simp only [maxLen] at hx3
 have hxw := wt_len (xL.map (·.1))
 rw [List.length_map] at hxw
 refine fun_of_sw Tryz.func6 rfl 203 rfl rfl ?_
 have hH := Hp.start w
 refine sw_sr ?_
 refine gl_st (st_boxH (cs := [.int .i64 xd, .int .i64 xn, .int .i64 xm, .slice Ax xL.length cx, xk, .string (bs xs), xb]) rfl rfl rfl rfl hH ?_)
 clear hH; intro b1 w2 hH
 refine glo 1 [(0, .slice Aa ac.length ca), (2, .int .i64 aq), (3, .int .i64 part), (4, .slice Ak ks.length ck), (6, Pp b1 0)] ?_
 refine gl_dn rfl ?_
 refine sw_sr ?_
 refine gl_st (st_call rfl rfl rfl (by kernel_rfl) rfl (Small19_ct _ (hH.zin _ _ hG)) ?_)
 rintro _ w3 ⟨rfl, hF4⟩
 replace hH := hH.call hF4; clear hF4
 refine glo 1 [(0, .slice Aa ac.length ca), (2, .int .i64 aq), (3, .int .i64 part), (4, .slice Ak ks.length ck), (6, Pp b1 0), (11, .bool true)] ?_
 refine gl_dn rfl ?_
 refine sw_sr ?_
 refine gl_st (st_call rfl rfl rfl (by kernel_rfl) rfl (DNew_ct _) ?_)
 rintro _ w7 ⟨db5, mb6, rfl, hF8⟩
 replace hH := hH.call hF8; clear hF8
 refine glo 1 [(0, .slice Aa ac.length ca), (2, .int .i64 aq), (3, .int .i64 part), (4, .slice Ak ks.length ck), (6, Pp b1 0), (11, .bool true), (12, Pp db5 0)] ?_
 refine gl_dn rfl ?_
 refine sw_seq ?_
 refine sw_sr ?_
 refine glo 6 [(0, .slice Aa ac.length ca), (2, .int .i64 aq), (3, .int .i64 part), (4, .slice Ak ks.length ck), (6, Pp b1 0), (12, Pp db5 0), (33, .bool false)] ?_
 refine gl_dn rfl ?_
 refine sw_false rfl rfl ?_
 refine sw_skip ?_
 refine sw_next ?_
 refine sw_sr ?_
 refine glo 1 [(0, .slice Aa ac.length ca), (2, .int .i64 aq), (3, .int .i64 part), (4, .slice Ak ks.length ck), (6, Pp b1 0), (12, Pp db5 0), (35, Pp db5 0)] ?_
 replace hH : Hp w w7 _ _ ([_] ++ [_]) := hH.fr2
 refine gl_st (st_call rfl rfl rfl (by kernel_rfl) rfl (OpenNew_ct hH.mine) ?_)
 rintro _ w16 ⟨g9, es10, ve11, pl12, pe13, rfl, ⟨hL14, hR15⟩, hF17⟩
 replace hH := hH.turns hF17; clear hF17
 replace hH : Hp w w16 _ _ [_, _, _, _] := hH
 refine glo 5 [(0, .slice Aa ac.length ca), (2, .int .i64 aq), (3, .int .i64 part), (4, .slice Ak ks.length ck), (6, Pp b1 0), (12, Pp db5 0), (13, Pp g9 0), (14, .nilIface)] ?_
 refine gl_dn rfl ?_
 refine sw_seq ?_
 refine sw_sr ?_
 refine glo 6 [(0, .slice Aa ac.length ca), (2, .int .i64 aq), (3, .int .i64 part), (4, .slice Ak ks.length ck), (6, Pp b1 0), (12, Pp db5 0), (13, Pp g9 0), (44, .bool false)] ?_
 refine gl_dn rfl ?_
 refine sw_false rfl rfl ?_
 refine sw_skip ?_
 refine sw_next ?_
 refine sw_seq ?_
 refine sw_sr ?_
 refine glo 1 [(0, .slice Aa ac.length ca), (2, .int .i64 aq), (3, .int .i64 part), (4, .slice Ak ks.length ck), (6, Pp b1 0), (12, Pp db5 0), (13, Pp g9 0), (15, .int .i64 0)] ?_
 refine gl_dn rfl ?_
 refine sw_block ?_
 replace hH := hH.fr4.fr4.fr4
 replace hH : Hp w w16 _ _ [_, _, _, _] := (hH.sublist (slk (slk (slk (slk sln)))))
 refine sw_loop (γ := Nat × Dsk × Lg × EQ × Value × Pl × List PE) (fun (i, D, l, es, ve, pl, pe) => [(0, .slice Aa ac.length ca), (2, .int .i64 aq), (3, .int .i64 part), (4, .slice Ak ks.length ck), (6, Pp b1 0), (12, Pp db5 0), (13, Pp g9 0), (15, Ni i)]) (fun (i, D, l, es, ve, pl, pe) w_ => (i ≤ ac.length) ∧ (i ≤ 60) ∧ (LogI D l i (wtW (ac.take i))) ∧ (CnR pl l.c es ve) ∧ (Rep pe D.fs) ∧ Hp w w_ (w.cell?) [] [lgI g9 db5 l ve, plO pl, dkI db5 mb6 0 D pe, .blk b1 47 [.int .i64 xd, .int .i64 xn, .int .i64 xm, .slice Ax xL.length cx, xk, .string (bs xs), xb]]) (fun (i, D, l, es, ve, pl, pe) => ac.length - i) (0, newD, newL, es10, ve11, pl12, pe13) (Sub.of_eq (by kernel_rfl)) ?_ ?_
 · exact ⟨by omega, by omega, logI_new.mono (by omega) (by omega), hL14, hR15, hH⟩
 clear hH
 rintro ⟨i, D, l, es, ve, pl, pe⟩ w18 ⟨hi, hi2, hI, hL, hR, hH⟩
 have hal := wtW_le ac i
 refine swk [(0, .slice Aa ac.length ca), (2, .int .i64 aq), (3, .int .i64 part), (4, .slice Ak ks.length ck), (6, Pp b1 0), (12, Pp db5 0), (13, Pp g9 0), (15, Ni i)] ?_
 refine sw_seq ?_
 refine sw_sr ?_
 refine glo 2 [(0, .slice Aa ac.length ca), (2, .int .i64 aq), (3, .int .i64 part), (4, .slice Ak ks.length ck), (6, Pp b1 0), (12, Pp db5 0), (13, Pp g9 0), (15, Ni i), (45, Ni i), (46, .slice Aa ac.length ca)] ?_
 refine gl_q rfl rfl rfl (rd_len (e := 47) (by kernel_rfl) rfl) ?_
 refine glo 2 [(0, .slice Aa ac.length ca), (2, .int .i64 aq), (3, .int .i64 part), (4, .slice Ak ks.length ck), (6, Pp b1 0), (12, Pp db5 0), (13, Pp g9 0), (15, Ni i), (49, .bool (decide (((i : Nat) : Int) < ((ac.length : Nat) : Int))))] ?_
 refine gl_split 49 (b := decide (((i : Nat) : Int) < ((ac.length : Nat) : Int))) rfl (fun hg3 => ?_) (fun hg3 => ?_)
 ·
  try simp only [decide_eq_true_eq] at hg3
  refine glo 3 [(0, .slice Aa ac.length ca), (2, .int .i64 aq), (3, .int .i64 part), (4, .slice Ak ks.length ck), (6, Pp b1 0), (12, Pp db5 0), (13, Pp g9 0), (15, Ni i), (52, .bool (decide (((i : Nat) : Int) < (60 : Int))))] ?_
  refine gl_dn rfl ?_
  refine sw_cond rfl rfl (fun hc4 => ?_) (fun hc4 => ?_)
  ·
   try simp only [decide_eq_true_eq] at hc4
   refine sw_skip ?_
   refine sw_next ?_
   refine sw_seq ?_
   refine sw_block ?_
   obtain ⟨a, ha⟩ : ∃ a, ac[i]? = some a := ⟨_, List.getElem?_eq_getElem (by omega)⟩
   have hka := hok a (List.mem_of_getElem? ha)
   have hs1 := wtW_next ha
   have hs2 := wtW_le ac (i + 1)
   have hn9 := hka.n
   have hm9 := hka.m
   refine sw_cut (γ := Nat × Dsk × Lg × EQ × Value × Pl × List PE) (fun (J, D1, l1, es1, ve1, pl1, pe1) => [(0, .slice Aa ac.length ca), (2, .int .i64 aq), (3, .int .i64 part), (4, .slice Ak ks.length ck), (6, Pp b1 0), (12, Pp db5 0), (13, Pp g9 0), (15, Ni i)]) (fun (J, D1, l1, es1, ve1, pl1, pe1) w_ => (J ≤ i ∨ (J ≤ i + 1 ∧ a.dv = 0)) ∧ (LogI D1 l1 J (wtW (ac.take (i + 1)))) ∧ (CnR pl1 l1.c es1 ve1) ∧ (Rep pe1 D1.fs) ∧ Hp w w_ (w.cell?) [] [lgI g9 db5 l1 ve1, plO pl1, dkI db5 mb6 0 D1 pe1, .blk b1 47 [.int .i64 xd, .int .i64 xn, .int .i64 xm, .slice Ax xL.length cx, xk, .string (bs xs), xb]]) ?_ ?_
   ·
    refine sw_sr ?_
    obtain ⟨p19, hi21, hp20⟩ := hA.idx i (by omega) (by decide)
    refine glo 2 [(0, .slice Aa ac.length ca), (2, .int .i64 aq), (3, .int .i64 part), (4, .slice Ak ks.length ck), (6, Pp b1 0), (12, Pp db5 0), (13, Pp g9 0), (15, Ni i), (55, .slice Aa ac.length ca), (56, Ni i)] ?_
    refine gl_q rfl rfl rfl (rd_idx (e := 47) (m := 7) (by kernel_rfl) (by kernel_rfl) rfl rfl hi21) ?_
    refine glo 1 [(0, .slice Aa ac.length ca), (2, .int .i64 aq), (3, .int .i64 part), (4, .slice Ak ks.length ck), (6, Pp b1 0), (12, Pp db5 0), (13, Pp g9 0), (15, Ni i), (58, .pointer (some p19))] ?_
    refine gl_q rfl rfl rfl (rd_load (by kernel_rfl) rfl (hH.zin _ _ (hp20 0 _ (by decide) (rowC_at awC_len ha 0 (by decide) rfl)))) ?_
    refine glo 1 [(0, .slice Aa ac.length ca), (2, .int .i64 aq), (3, .int .i64 part), (4, .slice Ak ks.length ck), (6, Pp b1 0), (12, Pp db5 0), (13, Pp g9 0), (15, Ni i), (60, .bool ((a.dv : Int) == (0 : Int)))] ?_
    refine gl_dn rfl ?_
    refine sw_cond rfl rfl (fun hc5 => ?_) (fun hc5 => ?_)
    ·
     try simp only [beq_iff_eq] at hc5
     refine sw_draw (by kernel_rfl) (fun w_ => Hp w w_ (w.cell?) [] [.blk b1 47 [.int .i64 xd, .int .i64 xn, .int .i64 xm, .slice Ax xL.length cx, xk, .string (bs xs), xb]]) ?_
     replace hH := hH.drew
     generalize { w18 with drawn := w18.drawn + 1 } = w22 at hH ⊢
     have hS9 := hH.sublist (slc (slc (slc (slk sln))))
     obtain ⟨p23, hi25, hp24⟩ := hA.idx i (by omega) (by decide)
     refine gdo 3 [0,1,2] [(0, .slice Aa ac.length ca), (2, .int .i64 aq), (3, .int .i64 part), (4, .slice Ak ks.length ck), (6, Pp b1 0), (12, Pp db5 0), (13, Pp g9 0), (15, Ni i), (61, Pp g9 0), (62, .slice Aa ac.length ca), (63, Ni i)] hS9 (PQ.th (PQ.bk (PQ.th (PQ.th (PQ.bk (PQ.th PQ.body)))))) ?_
     refine gdq 3 rfl (fun w_ hS => (rd_idx (e := 47) (m := 7) (by kernel_rfl) (by kernel_rfl) rfl rfl hi25)) hS9 (PQ.th (PQ.bk (PQ.th (PQ.th (PQ.bk (PQ.th PQ.body)))))) ?_
     refine gdo 1 [4] [(0, .slice Aa ac.length ca), (2, .int .i64 aq), (3, .int .i64 part), (4, .slice Ak ks.length ck), (6, Pp b1 0), (12, Pp db5 0), (13, Pp g9 0), (15, Ni i), (61, Pp g9 0), (65, .pointer (some (p23.add 1)))] hS9 (PQ.th (PQ.bk (PQ.th (PQ.th (PQ.bk (PQ.th PQ.body)))))) ?_
     refine gdq 5 rfl (fun w_ hS => (rd_load (by kernel_rfl) rfl (hS.zin _ _ (hp24 1 _ (by decide) (rowC_at awC_len ha 1 (by decide) rfl))))) hS9 (PQ.th (PQ.bk (PQ.th (PQ.th (PQ.bk (PQ.th PQ.body)))))) ?_
     obtain ⟨p26, hi28, hp27⟩ := hA.idx i (by omega) (by decide)
     refine gdo 2 [6,7] [(0, .slice Aa ac.length ca), (2, .int .i64 aq), (3, .int .i64 part), (4, .slice Ak ks.length ck), (6, Pp b1 0), (12, Pp db5 0), (13, Pp g9 0), (15, Ni i), (61, Pp g9 0), (66, .int .i64 a.n), (67, .slice Aa ac.length ca), (68, Ni i)] hS9 (PQ.th (PQ.bk (PQ.th (PQ.th (PQ.bk (PQ.th PQ.body)))))) ?_
     refine gdq 8 rfl (fun w_ hS => (rd_idx (e := 47) (m := 7) (by kernel_rfl) (by kernel_rfl) rfl rfl hi28)) hS9 (PQ.th (PQ.bk (PQ.th (PQ.th (PQ.bk (PQ.th PQ.body)))))) ?_
     refine gdo 1 [9] [(0, .slice Aa ac.length ca), (2, .int .i64 aq), (3, .int .i64 part), (4, .slice Ak ks.length ck), (6, Pp b1 0), (12, Pp db5 0), (13, Pp g9 0), (15, Ni i), (61, Pp g9 0), (66, .int .i64 a.n), (70, .pointer (some (p26.add 2)))] hS9 (PQ.th (PQ.bk (PQ.th (PQ.th (PQ.bk (PQ.th PQ.body)))))) ?_
     refine gdq 10 rfl (fun w_ hS => (rd_load (by kernel_rfl) rfl (hS.zin _ _ (hp27 2 _ (by decide) (rowC_at awC_len ha 2 (by decide) rfl))))) hS9 (PQ.th (PQ.bk (PQ.th (PQ.th (PQ.bk (PQ.th PQ.body)))))) ?_
     obtain ⟨p29, hi31, hp30⟩ := hA.idx i (by omega) (by decide)
     refine gdo 2 [11,12] [(0, .slice Aa ac.length ca), (2, .int .i64 aq), (3, .int .i64 part), (4, .slice Ak ks.length ck), (6, Pp b1 0), (12, Pp db5 0), (13, Pp g9 0), (15, Ni i), (61, Pp g9 0), (66, .int .i64 a.n), (71, .int .i64 a.m), (72, .slice Aa ac.length ca), (73, Ni i)] hS9 (PQ.th (PQ.bk (PQ.th (PQ.th (PQ.bk (PQ.th PQ.body)))))) ?_
     refine gdq 13 rfl (fun w_ hS => (rd_idx (e := 47) (m := 7) (by kernel_rfl) (by kernel_rfl) rfl rfl hi31)) hS9 (PQ.th (PQ.bk (PQ.th (PQ.th (PQ.bk (PQ.th PQ.body)))))) ?_
     refine gdo 1 [14] [(0, .slice Aa ac.length ca), (2, .int .i64 aq), (3, .int .i64 part), (4, .slice Ak ks.length ck), (6, Pp b1 0), (12, Pp db5 0), (13, Pp g9 0), (15, Ni i), (61, Pp g9 0), (66, .int .i64 a.n), (71, .int .i64 a.m), (75, .pointer (some (p29.add 3)))] hS9 (PQ.th (PQ.bk (PQ.th (PQ.th (PQ.bk (PQ.th PQ.body)))))) ?_
     refine gdq 15 rfl (fun w_ hS => (rd_load (by kernel_rfl) rfl (hS.zin _ _ (hp30 3 _ (by decide) (rowC_at awC_len ha 3 (by decide) rfl))))) hS9 (PQ.th (PQ.bk (PQ.th (PQ.th (PQ.bk (PQ.th PQ.body)))))) ?_
     replace hH : Hp w w22 _ _ ([_, _, _] ++ [_]) := hH
     refine gds 16 (st_call rfl rfl rfl (by kernel_rfl) rfl (SaveI_ct g9 a.n a.m _ _ es a.L pl pe hH.mine hI (by omega) (by omega) hL (hka.row.mono hH.zoff) (fun q hq => (hka.rb q hq).mono hH.zoff) hka.ok (by omega) (by omega) hR) ?_)
     rintro _ w43 ⟨D32, l33, er34, es35, ve36, pl37, pe38, rfl, ⟨hs39, hI40, hL41, hR42⟩, hF44⟩
     replace hH := hH.turns hF44; clear hF44
     replace hH : Hp w w43 _ _ [_, _, _, _] := hH
     replace hS9 := hH.sublist (slk sln)
     refine ⟨hS9, ?_⟩
     refine gdn [(0, .slice Aa ac.length ca), (2, .int .i64 aq), (3, .int .i64 part), (4, .slice Ak ks.length ck), (6, Pp b1 0), (12, Pp db5 0), (13, Pp g9 0), (15, Ni i)] ?_
     refine cut_end (i + 1, D32, l33, es35, ve36, pl37, pe38) (Sub.of_eq (by kernel_rfl)) ?_
     replace hH := hH.fr4.fr4.fr4
     replace hH : Hp w w43 _ _ [_, _, _, _] := (hH.sublist (slk (slk (slk (slk sln)))))
     exact ⟨by omega, hI40.mono (by omega) (by omega), hL41, hR42, hH⟩
    try simp only [beq_eq_false_iff_ne, ne_eq] at hc5
    refine sw_skip ?_
    refine cut_end (i, D, l, es, ve, pl, pe) (Sub.of_eq (by kernel_rfl)) ?_
    replace hH : Hp w w18 _ _ [_, _, _, _] := (hH.sublist (slk (slk (slk (slk sln)))))
    exact ⟨by omega, hI.mono (by omega) (by omega), hL, hR, hH⟩
   clear hH
   rintro ⟨J, D1, l1, es1, ve1, pl1, pe1⟩ w45 ⟨hJ, hI1, hL1, hR1, hH⟩
   refine swk [(0, .slice Aa ac.length ca), (2, .int .i64 aq), (3, .int .i64 part), (4, .slice Ak ks.length ck), (6, Pp b1 0), (12, Pp db5 0), (13, Pp g9 0), (15, Ni i)] ?_
   refine sw_sr ?_
   obtain ⟨p46, hi48, hp47⟩ := hA.idx i (by omega) (by decide)
   refine glo 2 [(0, .slice Aa ac.length ca), (2, .int .i64 aq), (3, .int .i64 part), (4, .slice Ak ks.length ck), (6, Pp b1 0), (12, Pp db5 0), (13, Pp g9 0), (15, Ni i), (78, .slice Aa ac.length ca), (79, Ni i)] ?_
   refine gl_q rfl rfl rfl (rd_idx (e := 47) (m := 7) (by kernel_rfl) (by kernel_rfl) rfl rfl hi48) ?_
   refine glo 1 [(0, .slice Aa ac.length ca), (2, .int .i64 aq), (3, .int .i64 part), (4, .slice Ak ks.length ck), (6, Pp b1 0), (12, Pp db5 0), (13, Pp g9 0), (15, Ni i), (81, .pointer (some p46))] ?_
   refine gl_q rfl rfl rfl (rd_load (by kernel_rfl) rfl (hH.zin _ _ (hp47 0 _ (by decide) (rowC_at awC_len ha 0 (by decide) rfl)))) ?_
   refine glo 1 [(0, .slice Aa ac.length ca), (2, .int .i64 aq), (3, .int .i64 part), (4, .slice Ak ks.length ck), (6, Pp b1 0), (12, Pp db5 0), (13, Pp g9 0), (15, Ni i), (83, .bool ((a.dv : Int) == (1 : Int)))] ?_
   refine gl_dn rfl ?_
   refine sw_cond rfl rfl (fun hc6 => ?_) (fun hc6 => ?_)
   ·
    try simp only [beq_iff_eq] at hc6
    refine sw_draw (by kernel_rfl) (fun w_ => Hp w w_ (w.cell?) [] [.blk b1 47 [.int .i64 xd, .int .i64 xn, .int .i64 xm, .slice Ax xL.length cx, xk, .string (bs xs), xb]]) ?_
    replace hH := hH.drew
    generalize { w45 with drawn := w45.drawn + 1 } = w49 at hH ⊢
    have hS9 := hH.sublist (slc (slc (slc (slk sln))))
    obtain ⟨p50, hi52, hp51⟩ := hA.idx i (by omega) (by decide)
    refine gdo 3 [0,1,2] [(0, .slice Aa ac.length ca), (2, .int .i64 aq), (3, .int .i64 part), (4, .slice Ak ks.length ck), (6, Pp b1 0), (12, Pp db5 0), (13, Pp g9 0), (15, Ni i), (84, Pp g9 0), (85, .slice Aa ac.length ca), (86, Ni i)] hS9 (PQ.bk (PQ.th (PQ.th (PQ.bk (PQ.th PQ.body))))) ?_
    refine gdq 3 rfl (fun w_ hS => (rd_idx (e := 47) (m := 7) (by kernel_rfl) (by kernel_rfl) rfl rfl hi52)) hS9 (PQ.bk (PQ.th (PQ.th (PQ.bk (PQ.th PQ.body))))) ?_
    refine gdo 1 [4] [(0, .slice Aa ac.length ca), (2, .int .i64 aq), (3, .int .i64 part), (4, .slice Ak ks.length ck), (6, Pp b1 0), (12, Pp db5 0), (13, Pp g9 0), (15, Ni i), (84, Pp g9 0), (88, .pointer (some (p50.add 1)))] hS9 (PQ.bk (PQ.th (PQ.th (PQ.bk (PQ.th PQ.body))))) ?_
    refine gdq 5 rfl (fun w_ hS => (rd_load (by kernel_rfl) rfl (hS.zin _ _ (hp51 1 _ (by decide) (rowC_at awC_len ha 1 (by decide) rfl))))) hS9 (PQ.bk (PQ.th (PQ.th (PQ.bk (PQ.th PQ.body))))) ?_
    obtain ⟨p53, hi55, hp54⟩ := hA.idx i (by omega) (by decide)
    refine gdo 2 [6,7] [(0, .slice Aa ac.length ca), (2, .int .i64 aq), (3, .int .i64 part), (4, .slice Ak ks.length ck), (6, Pp b1 0), (12, Pp db5 0), (13, Pp g9 0), (15, Ni i), (84, Pp g9 0), (89, .int .i64 a.n), (90, .slice Aa ac.length ca), (91, Ni i)] hS9 (PQ.bk (PQ.th (PQ.th (PQ.bk (PQ.th PQ.body))))) ?_
    refine gdq 8 rfl (fun w_ hS => (rd_idx (e := 47) (m := 7) (by kernel_rfl) (by kernel_rfl) rfl rfl hi55)) hS9 (PQ.bk (PQ.th (PQ.th (PQ.bk (PQ.th PQ.body))))) ?_
    refine gdo 1 [9] [(0, .slice Aa ac.length ca), (2, .int .i64 aq), (3, .int .i64 part), (4, .slice Ak ks.length ck), (6, Pp b1 0), (12, Pp db5 0), (13, Pp g9 0), (15, Ni i), (84, Pp g9 0), (89, .int .i64 a.n), (93, .pointer (some (p53.add 2)))] hS9 (PQ.bk (PQ.th (PQ.th (PQ.bk (PQ.th PQ.body))))) ?_
    refine gdq 10 rfl (fun w_ hS => (rd_load (by kernel_rfl) rfl (hS.zin _ _ (hp54 2 _ (by decide) (rowC_at awC_len ha 2 (by decide) rfl))))) hS9 (PQ.bk (PQ.th (PQ.th (PQ.bk (PQ.th PQ.body))))) ?_
    replace hH : Hp w w49 _ _ ([_, _, _] ++ [_]) := hH
    refine gds 11 (st_call rfl rfl rfl (by kernel_rfl) rfl (CompactI_ct g9 a.n a.m _ es1 pl1 pe1 hH.mine hI1 (by omega) (by omega) hL1 (by omega) (by omega) hR1) ?_)
    rintro _ w67 ⟨D56, l57, er58, es59, ve60, pl61, pe62, rfl, ⟨hs63, hI64, hL65, hR66⟩, hF68⟩
    replace hH := hH.turns hF68; clear hF68
    replace hH : Hp w w67 _ _ [_, _, _, _] := hH
    replace hS9 := hH.sublist (slk sln)
    refine ⟨hS9, ?_⟩
    refine gdn [(0, .slice Aa ac.length ca), (2, .int .i64 aq), (3, .int .i64 part), (4, .slice Ak ks.length ck), (6, Pp b1 0), (12, Pp db5 0), (13, Pp g9 0), (15, Ni i)] ?_
    refine bkN ?_
    refine sw_next ?_
    refine sw_region ?_
    refine glo 2 [(0, .slice Aa ac.length ca), (2, .int .i64 aq), (3, .int .i64 part), (4, .slice Ak ks.length ck), (6, Pp b1 0), (12, Pp db5 0), (13, Pp g9 0), (54, .int .i64 (IntKind.i64.wrap (((i : Nat) : Int) + 1)))] ?_
    refine gl_cv 54 (Ni (i + 1)) (cv_i64 (by omega)) rfl ?_
    refine glo 1 [(0, .slice Aa ac.length ca), (2, .int .i64 aq), (3, .int .i64 part), (4, .slice Ak ks.length ck), (6, Pp b1 0), (12, Pp db5 0), (13, Pp g9 0), (15, Ni (i + 1))] ?_
    refine gl_done rfl ?_
    refine rnd_end (g := (i, D, l, es, ve, pl, pe)) (i + 1, D56, l57, es59, ve60, pl61, pe62) (by kernel_rfl) ?_ ?_
    replace hH := hH.fr4.fr4.fr4
    replace hH : Hp w w67 _ _ [_, _, _, _] := (hH.sublist (slk (slk (slk (slk sln)))))
    · exact ⟨by omega, by omega, hI64.mono (by omega) (by omega), hL65, hR66, hH⟩
    · show ac.length - (i + 1) < ac.length - i; omega
   try simp only [beq_eq_false_iff_ne, ne_eq] at hc6
   refine sw_skip ?_
   refine bkN ?_
   refine sw_next ?_
   refine sw_region ?_
   refine glo 2 [(0, .slice Aa ac.length ca), (2, .int .i64 aq), (3, .int .i64 part), (4, .slice Ak ks.length ck), (6, Pp b1 0), (12, Pp db5 0), (13, Pp g9 0), (54, .int .i64 (IntKind.i64.wrap (((i : Nat) : Int) + 1)))] ?_
   refine gl_cv 54 (Ni (i + 1)) (cv_i64 (by omega)) rfl ?_
   refine glo 1 [(0, .slice Aa ac.length ca), (2, .int .i64 aq), (3, .int .i64 part), (4, .slice Ak ks.length ck), (6, Pp b1 0), (12, Pp db5 0), (13, Pp g9 0), (15, Ni (i + 1))] ?_
   refine gl_done rfl ?_
   refine rnd_end (g := (i, D, l, es, ve, pl, pe)) (i + 1, D1, l1, es1, ve1, pl1, pe1) (by kernel_rfl) ?_ ?_
   replace hH : Hp w w45 _ _ [_, _, _, _] := (hH.sublist (slk (slk (slk (slk sln)))))
   · exact ⟨by omega, by omega, hI1.mono (by omega) (by omega), hL1, hR1, hH⟩
   · show ac.length - (i + 1) < ac.length - i; omega
  try simp only [decide_eq_false_iff_not, Int.not_lt, Int.not_le] at hc4
  refine sw_exit ?_
  refine thX ?_
  refine thX ?_
  refine bkH ?_
  refine sw_next ?_
  have hal := wtW_le ac i
  refine sw_sr ?_
  refine glo 1 [(2, .int .i64 aq), (3, .int .i64 part), (4, .slice Ak ks.length ck), (6, Pp b1 0), (12, Pp db5 0), (13, Pp g9 0), (97, Pp g9 0)] ?_
  refine gl_st (st_call rfl rfl rfl (by kernel_rfl) rfl (What_ct g9 l.c _ es _ (hH.blk_cell 0 rfl rfl) (hH.blk_cell 0 rfl rfl) (hH.blk_cell 0 rfl rfl) (hH.blk_cell 0 rfl rfl) (hH.blk_cell 0 rfl rfl) (hL.row.mono (pz_le hH 1 rfl)) (fun q hq => (hL.ok q hq).1.d.mono (pz_le hH 1 rfl)) (fun q hq => (hL.ok q hq).2) (by have h9 := hL.len; have h8 := hI.cnt; omega)) ?_)
  rintro _ w76 ⟨v69, v70, rs71, rfl, hrs72, hF77⟩
  replace hH := hH.call hF77; clear hF77
  rw [hL.fst] at hrs72
  obtain ⟨A78, c79, rfl, hl80, hm81⟩ := hH.row_form 4 rfl
  obtain ⟨A82, c83, rfl, hl84, hm85⟩ := hH.row_form 5 rfl
  refine glo 5 [(2, .int .i64 aq), (3, .int .i64 part), (4, .slice Ak ks.length ck), (6, Pp b1 0), (12, Pp db5 0), (13, Pp g9 0), (16, .slice A78 4 c79), (17, .slice A82 rs71.length c83)] ?_
  refine gl_dn rfl ?_
  refine sw_sr ?_
  obtain ⟨A9, hA9⟩ : ∃ A, IntKind.i64.wrap (((BitVec.ofInt 64 aq &&& BitVec.ofInt 64 1).toNat : Nat) : Int) = A := ⟨_, rfl⟩
  refine glo 3 [(3, .int .i64 part), (4, .slice Ak ks.length ck), (6, Pp b1 0), (12, Pp db5 0), (13, Pp g9 0), (16, .slice A78 4 c79), (17, .slice A82 rs71.length c83), (101, Pp db5 0), (103, .int .i64 (IntKind.i64.wrap (((BitVec.ofInt 64 aq &&& BitVec.ofInt 64 1).toNat : Nat) : Int)))] ?_
  refine gl_cv 103 (.int .i64 A9) (congrArg _ hA9) rfl ?_
  refine glo 1 [(4, .slice Ak ks.length ck), (6, Pp b1 0), (12, Pp db5 0), (13, Pp g9 0), (16, .slice A78 4 c79), (17, .slice A82 rs71.length c83), (101, Pp db5 0), (103, .int .i64 A9), (104, .int .i64 part)] ?_
  replace hH : Hp w w76 _ _ ([_] ++ [_, _, _, _, _, _]) := hH.fr3
  refine gl_st (st_call rfl rfl rfl (by kernel_rfl) rfl (Arm_ct db5 mb6 0 D pe A9 part _ hH.mine) ?_)
  rintro _ w87 ⟨ab86, rfl, hF88⟩
  replace hH := hH.turns hF88; clear hF88
  replace hH : Hp w w87 _ _ [_, _, _, _, _, _, _] := hH
  refine gl_dn rfl ?_
  refine sw_sr ?_
  refine glo 2 [(4, .slice Ak ks.length ck), (6, Pp b1 0), (12, Pp db5 0), (16, .slice A78 4 c79), (17, .slice A82 rs71.length c83), (106, Pp g9 0), (107, Pp b1 1)] ?_
  refine gl_q rfl rfl rfl (rd_loadK 2 (by kernel_rfl) hH rfl rfl rfl) ?_
  refine glo 1 [(4, .slice Ak ks.length ck), (6, Pp b1 0), (12, Pp db5 0), (16, .slice A78 4 c79), (17, .slice A82 rs71.length c83), (106, Pp g9 0), (108, .int .i64 xn), (109, Pp b1 2)] ?_
  refine gl_q rfl rfl rfl (rd_loadK 2 (by kernel_rfl) hH rfl rfl rfl) ?_
  refine glo 1 [(4, .slice Ak ks.length ck), (6, Pp b1 0), (12, Pp db5 0), (16, .slice A78 4 c79), (17, .slice A82 rs71.length c83), (106, Pp g9 0), (108, .int .i64 xn), (110, .int .i64 xm), (111, Pp b1 3)] ?_
  refine gl_q rfl rfl rfl (rd_loadK 2 (by kernel_rfl) hH rfl rfl rfl) ?_
  obtain ⟨R, hsv⟩ : ∃ R, saveL (armD D A9 part) l xn xm (xL.map (·.1)) = R := ⟨_, rfl⟩
  replace hH : Hp w w87 _ _ ([_, _, _] ++ [_, _, _, _]) := hH.fr7.fr3.fr3
  refine gl_st (st_call rfl rfl rfl (by kernel_rfl) rfl (by have h9 := SaveG_ct (D := D) (mb := mb6) (ab := ab86) g9 xn xm ve _ es xL pl pe (armD D A9 part) rfl (arOk_arm A9 part (by rw [← hA9]; exact and1_le _) D) hH.mine hI (by omega) (by omega) hL (hxR.mono hH.zoff) (fun q hq => (hxq q hq).mono hH.zoff) hxok hxn hxm hR; unfold SavePost at h9; rw [hsv] at h9; exact h9) ?_)
  rintro _ w95 ⟨pe92, es89, ve90, pl91, rfl, ⟨hR93, hL94⟩, hF96⟩
  replace hH := hH.turns hF96; clear hF96
  replace hH : Hp w w95 _ _ [_, _, _, _, _, _, _] := hH
  refine glo 1 [(4, .slice Ak ks.length ck), (6, Pp b1 0), (12, Pp db5 0), (16, .slice A78 4 c79), (17, .slice A82 rs71.length c83), (18, errV R.2.2)] ?_
  refine gl_dn rfl ?_
  refine sw_seq ?_
  refine sw_sr ?_
  refine glo 1 [(4, .slice Ak ks.length ck), (6, Pp b1 0), (12, Pp db5 0), (16, .slice A78 4 c79), (17, .slice A82 rs71.length c83), (18, errV R.2.2), (114, errV R.2.2)] ?_
  refine gl_q rfl rfl rfl (rd_err_eq (by kernel_rfl) rfl) ?_
  refine glo 1 [(4, .slice Ak ks.length ck), (6, Pp b1 0), (12, Pp db5 0), (16, .slice A78 4 c79), (17, .slice A82 rs71.length c83), (18, errV R.2.2), (116, .bool (R.2.2 == 0))] ?_
  refine gl_split 116 (b := R.2.2 == 0) rfl (fun hg7 => ?_) (fun hg7 => ?_)
  ·
   try simp only [beq_iff_eq] at hg7
   refine glo 4 [(4, .slice Ak ks.length ck), (6, Pp b1 0), (12, Pp db5 0), (16, .slice A78 4 c79), (17, .slice A82 rs71.length c83), (120, .bool true)] ?_
   refine gl_dn rfl ?_
   refine sw_true rfl rfl ?_
   refine sw_sr ?_
   refine glo 1 [(10, .bool true)] ?_
   refine gl_dn rfl ?_
   refine sw_ret ?_
   refine thR ?_
   refine ret1 rfl rfl  ?_
   exact ⟨rfl, (hH.sublist sln).fresh⟩
  try simp only [beq_eq_false_iff_ne, ne_eq] at hg7
  refine glo 1 [(4, .slice Ak ks.length ck), (6, Pp b1 0), (12, Pp db5 0), (16, .slice A78 4 c79), (17, .slice A82 rs71.length c83), (116, .bool false), (117, errV R.2.2)] ?_
  refine gl_st (st_call rfl rfl rfl (by kernel_rfl) rfl (Code_ct R.2.2 _ (hH.zin _ _ hG)) ?_)
  rintro _ w97 ⟨rfl, hF98⟩
  replace hH := hH.call hF98; clear hF98
  refine glo 2 [(4, .slice Ak ks.length ck), (6, Pp b1 0), (12, Pp db5 0), (16, .slice A78 4 c79), (17, .slice A82 rs71.length c83), (120, .bool (((R.2.2 : Nat) : Int) != (80 : Int)))] ?_
  refine gl_dn rfl ?_
  refine sw_cond rfl rfl (fun hc9 => ?_) (fun hc9 => ?_)
  ·
   try simp only [bne_iff_ne, ne_eq] at hc9
   refine sw_sr ?_
   refine glo 1 [(10, .bool true)] ?_
   refine gl_dn rfl ?_
   refine sw_ret ?_
   refine thR ?_
   refine ret1 rfl rfl  ?_
   exact ⟨rfl, (hH.sublist sln).fresh⟩
  try simp only [bne_eq_false_iff_eq] at hc9
  refine sw_skip ?_
  refine sw_next ?_
  have h80 : R.2.2 = 80 := by omega
  obtain ⟨c9, hpall, hxn0, hxm0, hGR, hNR, hks⟩ := torn_I (D := D) (D2 := armD D A9 part) hI (by omega) rfl hI.off hxn hxm (fun e he => by obtain ⟨q, hq, rfl⟩ := List.mem_map.1 he; exact hxok q hq) (by omega) hsv h80
  obtain ⟨D4, l4, hop, hI4, hG3, hN3, hps3, hor⟩ := hks ks
  refine sw_sr ?_
  refine glo 2 [(6, Pp b1 0), (12, Pp db5 0), (16, .slice A78 4 c79), (17, .slice A82 rs71.length c83), (121, Pp db5 0), (122, .slice Ak ks.length ck)] ?_
  replace hH : Hp w w97 _ _ ([_] ++ [_, _, _, _, _, _]) := hH.fr7
  refine gl_st (st_call rfl rfl rfl (by kernel_rfl) rfl (Start_ct db5 mb6 ab86 R.1 pe92 _ ks _ _ hH.mine (hk.mono hH.zoff) hR93 hGR (by omega) (by omega)) ?_)
  rintro _ w101 ⟨pe99, rfl, hR100, hF102⟩
  replace hH := hH.turns hF102; clear hF102
  replace hH : Hp w w101 _ _ [_, _, _, _, _, _, _] := hH
  refine gl_dn rfl ?_
  refine sw_sr ?_
  refine glo 1 [(6, Pp b1 0), (16, .slice A78 4 c79), (17, .slice A82 rs71.length c83), (125, Pp db5 0)] ?_
  replace hH : Hp w w101 _ _ ([_] ++ [_, _, _, _, _, _]) := hH.fr7
  refine gl_st (st_call rfl rfl rfl (by kernel_rfl) rfl ((WOpen_ct db5 mb6 ab86 (startD R.1 ks) pe99 _ _ hH.mine hR100 (fun a p e => by cases e) hG3 (by omega) (by omega) (fun ps h => (hps3 ps h).1) (fun ps h p hp => .inl (by have := (hps3 ps h).2 p hp; omega)) (.inl (by omega))).mono fun v w' h => open_out hop hI4.bad h) ?_)
  rintro _ w110 ⟨g103, es104, ve105, pl106, pe107, rfl, ⟨hL108, hR109⟩, hF111⟩
  replace hH := hH.turns hF111; clear hF111
  replace hH : Hp w w110 _ _ [_, _, _, _, _, _, _, _, _] := hH
  replace hH : Hp w w110 _ _ [_, _, _, _, _, _, _, _, _] := hH
  refine glo 5 [(6, Pp b1 0), (16, .slice A78 4 c79), (17, .slice A82 rs71.length c83), (19, Pp g103 0), (20, .nilIface)] ?_
  refine gl_dn rfl ?_
  refine sw_seq ?_
  refine sw_sr ?_
  refine glo 6 [(6, Pp b1 0), (16, .slice A78 4 c79), (17, .slice A82 rs71.length c83), (19, Pp g103 0), (134, .bool false)] ?_
  refine gl_dn rfl ?_
  refine sw_false rfl rfl ?_
  refine sw_skip ?_
  refine sw_next ?_
  refine sw_sr ?_
  refine glo 1 [(6, Pp b1 0), (16, .slice A78 4 c79), (17, .slice A82 rs71.length c83), (136, Pp g103 0)] ?_
  refine gl_st (st_call rfl rfl rfl (by kernel_rfl) rfl (What_ct g103 l4.c _ es104 _ (hH.blk_cell 6 rfl rfl) (hH.blk_cell 6 rfl rfl) (hH.blk_cell 6 rfl rfl) (hH.blk_cell 6 rfl rfl) (hH.blk_cell 6 rfl rfl) (hL108.row.mono (pz_le hH 7 rfl)) (fun q hq => (hL108.ok q hq).1.d.mono (pz_le hH 7 rfl)) (fun q hq => (hL108.ok q hq).2) (by have h9 := hL108.len; have h8 := hI4.cnt; omega)) ?_)
  rintro _ w119 ⟨v112, v113, rs114, rfl, hrs115, hF120⟩
  replace hH := hH.call hF120; clear hF120
  rw [hL108.fst] at hrs115
  obtain ⟨A121, c122, rfl, hl123, hm124⟩ := hH.row_form 9 rfl
  obtain ⟨A125, c126, rfl, hl127, hm128⟩ := hH.row_form 10 rfl
  replace hH : Hp w w119 _ _ [_, _, _, _, _, _, _, _, _, _, _, _] := hH
  refine glo 5 [(6, Pp b1 0), (16, .slice A78 4 c79), (17, .slice A82 rs71.length c83), (21, .slice A121 4 c122), (22, .slice A125 rs114.length c126)] ?_
  refine gl_dn rfl ?_
  refine sw_sr ?_
  refine glo 4 [(6, Pp b1 0), (16, .slice A78 4 c79), (17, .slice A82 rs71.length c83), (21, .slice A121 4 c122), (22, .slice A125 rs114.length c126), (140, .slice A78 4 c79), (141, .slice A82 rs71.length c83), (142, .slice A121 4 c122), (143, .slice A125 rs114.length c126)] ?_
  refine gl_st (st_call rfl rfl rfl (by kernel_rfl) rfl (Alike_ct _ _ _ _ ((l.c.term : Nat) : Int) ((l.c.vote : Nat) : Int) ((l.c.ix : Nat) : Int) ((l.c.ah : Nat) : Int) ((l4.c.term : Nat) : Int) ((l4.c.vote : Nat) : Int) ((l4.c.ix : Nat) : Int) ((l4.c.ah : Nat) : Int) (eiN rs71) (eiN rs114) _ (hH.row_reads 1 rfl) (row_rs (hH.row_reads 2 rfl)) (hH.row_reads 9 rfl) (row_rs (hH.row_reads 10 rfl)) (eiN_rb (enRows_rb hH 3 rfl)) (eiN_rb (enRows_rb hH 11 rfl))) ?_)
  rintro _ w131 ⟨b129, rfl, hb130, hF132⟩
  replace hH := hH.call hF132; clear hF132
  replace hH : Hp w w131 _ _ [_, _, _, _, _, _, _, _, _, _, _, _] := hH
  refine glo 1 [(6, Pp b1 0), (16, .slice A78 4 c79), (17, .slice A82 rs71.length c83), (21, .slice A121 4 c122), (22, .slice A125 rs114.length c126), (23, .bool b129)] ?_
  refine gl_dn rfl ?_
  refine sw_seq ?_
  refine sw_sr ?_
  refine glo 1 [(6, Pp b1 0), (16, .slice A78 4 c79), (17, .slice A82 rs71.length c83), (21, .slice A121 4 c122), (22, .slice A125 rs114.length c126), (145, .bool b129)] ?_
  refine gl_dn rfl ?_
  refine sw_cond rfl rfl (fun hc11 => ?_) (fun hc11 => ?_)
  ·
   refine sw_sr ?_
   refine glo 1 [(10, .bool true)] ?_
   refine gl_dn rfl ?_
   refine sw_ret ?_
   refine thR ?_
   refine ret1 rfl rfl  ?_
   exact ⟨rfl, (hH.sublist sln).fresh⟩
  have hor2 := hor.resolve_left (fun h9 => by have h8 := hb130.2 ⟨⟨by rw [h9], by rw [h9], by rw [h9], by rw [h9]⟩, by rw [eiN_fst, eiN_fst, hrs72, hrs115, h9]⟩; rw [hc11] at h8; cases h8)
  obtain ⟨J, cJ, hJ1, hJ2, hJ3⟩ := hor2
  rw [List.length_map] at hJ1
  have hn1 : ((l4.c.term : Nat) : Int) = xn := by rw [hJ3]; simp only; omega
  have hn2 : ((l4.c.vote : Nat) : Int) = xm := by rw [hJ3]; simp only; omega
  have hn3 : l4.c.ix = l.c.ix := by rw [hJ3]; exact (putsA_len hJ2).1
  have hn4 : l4.c.ah = l.c.ah := by rw [hJ3]; exact (putsA_len hJ2).2.1
  have hn5 : l4.c.es = cJ.es := by rw [hJ3]
  refine sw_skip ?_
  refine sw_next ?_
  refine sw_sr ?_
  refine glo 2 [(6, Pp b1 0), (16, .slice A78 4 c79), (17, .slice A82 rs71.length c83), (21, .slice A121 4 c122), (22, .slice A125 rs114.length c126), (146, .slice A78 4 c79), (147, Pp b1 1)] ?_
  refine gl_q rfl rfl rfl (rd_loadK 0 (by kernel_rfl) hH rfl rfl rfl) ?_
  obtain ⟨b134, hb133, hi135⟩ := hH.row_idx 1 rfl 0 (by omega)
  refine gl_q rfl rfl rfl (rd_idx (e := 3) (m := 1) (by kernel_rfl) (by kernel_rfl) rfl rfl hi135) ?_
  refine gl_st (st_storeO (u := .int .i64 xn) 1 rfl rfl rfl hH rfl rfl rfl (by kernel_rfl) rfl hb133 (by simp [bv_length] <;> omega) ?_)
  clear hH; intro w136 hH
  replace hH := hH.row_eq 1 (l' := 4) (xs' := [.int .i64 xn, .int .i64 ((l.c.vote : Nat) : Int), .int .i64 ((l.c.ix : Nat) : Int), .int .i64 ((l.c.ah : Nat) : Int)]) rfl (rfl) (rfl)
  replace hH : Hp w w136 _ _ [_, _, _, _, _, _, _, _, _, _, _, _] := hH
  refine gl_dn rfl ?_
  refine sw_sr ?_
  refine glo 2 [(6, Pp b1 0), (16, .slice A78 4 c79), (17, .slice A82 rs71.length c83), (21, .slice A121 4 c122), (22, .slice A125 rs114.length c126), (150, .slice A78 4 c79), (151, Pp b1 2)] ?_
  refine gl_q rfl rfl rfl (rd_loadK 0 (by kernel_rfl) hH rfl rfl rfl) ?_
  obtain ⟨b138, hb137, hi139⟩ := hH.row_idx 1 rfl 1 (by omega)
  refine gl_q rfl rfl rfl (rd_idx (e := 3) (m := 1) (by kernel_rfl) (by kernel_rfl) rfl rfl hi139) ?_
  refine gl_st (st_storeO (u := .int .i64 xm) 1 rfl rfl rfl hH rfl rfl rfl (by kernel_rfl) rfl hb137 (by simp [bv_length] <;> omega) ?_)
  clear hH; intro w140 hH
  replace hH := hH.row_eq 1 (l' := 4) (xs' := [.int .i64 xn, .int .i64 xm, .int .i64 ((l.c.ix : Nat) : Int), .int .i64 ((l.c.ah : Nat) : Int)]) rfl (rfl) (rfl)
  replace hH : Hp w w140 _ _ [_, _, _, _, _, _, _, _, _, _, _, _] := hH
  refine gl_dn rfl ?_
  refine sw_seq ?_
  refine sw_sr ?_
  refine glo 1 [(6, Pp b1 0), (16, .slice A78 4 c79), (17, .slice A82 rs71.length c83), (21, .slice A121 4 c122), (22, .slice A125 rs114.length c126), (24, .int .i64 0)] ?_
  refine gl_dn rfl ?_
  refine sw_block ?_
  replace hH := hH.fr12.fr12.fr12.fr5.fr7.fr7
  replace hH : Hp w w140 _ _ [_, _, _, _, _, _, _] := (hH.sublist (slk (slk (slk (slk (slk (slk (slk sln))))))))
  refine sw_loop (γ := Nat × Cn × EQ × Option Addr × Nat) (fun (j, cj, K, AK, cK) => [(6, Pp b1 0), (16, .slice A78 4 c79), (17, .slice AK K.length cK), (21, .slice A121 4 c122), (22, .slice A125 rs114.length c126), (24, Ni j)]) (fun (j, cj, K, AK, cK) w_ => (putsA l.c ((xL.map (·.1)).take j) = some cj) ∧ (K.map (·.1) = cj.es) ∧ (∀ q ∈ K, q ∈ rs71 ∨ ∃ x ∈ xL, q = (x.1.en, x.2)) ∧ (j ≤ J) ∧ Hp w w_ (w.cell?) [] [.row (.slice AK K.length cK) 64 4 K.length (rowC enC K), enRows rs71, .row (.slice A78 4 c79) 3 1 4 [.int .i64 xn, .int .i64 xm, .int .i64 ((l.c.ix : Nat) : Int), .int .i64 ((l.c.ah : Nat) : Int)], .row (.slice A121 4 c122) 3 1 4 [.int .i64 ((l4.c.term : Nat) : Int), .int .i64 ((l4.c.vote : Nat) : Int), .int .i64 ((l4.c.ix : Nat) : Int), .int .i64 ((l4.c.ah : Nat) : Int)], .row (.slice A125 rs114.length c126) 64 4 rs114.length (rowC enC rs114), enRows rs114, .blk b1 47 [.int .i64 xd, .int .i64 xn, .int .i64 xm, .slice Ax xL.length cx, xk, .string (bs xs), xb]]) (fun (j, cj, K, AK, cK) => xL.length - j) (0, l.c, rs71, A82, c83) (Sub.of_eq (by kernel_rfl)) ?_ ?_
  · exact ⟨rfl, hrs72, fun q hq => .inl hq, by omega, hH⟩
  clear hH
  rintro ⟨j, cj, K, AK, cK⟩ w141 ⟨hcj, hKf, hKm, hjJ0, hH⟩
  have hKl : K.length = cj.es.length := by rw [← hKf, List.length_map]
  obtain ⟨_, _, e9, hc8, hc9⟩ := hH.row_form 0 rfl
  cases e9
  have hcl := (putsA_len hcj).2.2
  rw [List.length_take, List.length_map] at hcl
  have hcnt := hI.cnt
  refine swk [(6, Pp b1 0), (16, .slice A78 4 c79), (17, .slice AK K.length cK), (21, .slice A121 4 c122), (22, .slice A125 rs114.length c126), (24, Ni j)] ?_
  refine sw_seq ?_
  refine sw_sr ?_
  refine glo 2 [(6, Pp b1 0), (16, .slice A78 4 c79), (17, .slice AK K.length cK), (21, .slice A121 4 c122), (22, .slice A125 rs114.length c126), (24, Ni j), (154, Ni j), (155, Pp b1 3)] ?_
  refine gl_q rfl rfl rfl (rd_loadK 6 (by kernel_rfl) hH rfl rfl rfl) ?_
  refine gl_q rfl rfl rfl (rd_len (e := 64) (by kernel_rfl) rfl) ?_
  refine glo 1 [(6, Pp b1 0), (16, .slice A78 4 c79), (17, .slice AK K.length cK), (21, .slice A121 4 c122), (22, .slice A125 rs114.length c126), (24, Ni j), (158, .bool (decide (((j : Nat) : Int) ≤ ((xL.length : Nat) : Int))))] ?_
  refine gl_dn rfl ?_
  refine sw_cond rfl rfl (fun hc12 => ?_) (fun hc12 => ?_)
  rotate_left
  · exact absurd hc12 (by simp only [decide_eq_false_iff_not, beq_eq_false_iff_ne, bne_eq_false_iff_eq, ne_eq, Decidable.not_not, Int.not_lt, Int.not_le]; omega)
  clear hc12
  refine sw_skip ?_
  refine sw_next ?_
  refine sw_seq ?_
  refine sw_block ?_
  refine sw_sr ?_
  refine glo 4 [(6, Pp b1 0), (16, .slice A78 4 c79), (17, .slice AK K.length cK), (21, .slice A121 4 c122), (22, .slice A125 rs114.length c126), (24, Ni j), (161, .slice A78 4 c79), (162, .slice AK K.length cK), (163, .slice A121 4 c122), (164, .slice A125 rs114.length c126)] ?_
  refine gl_st (st_call rfl rfl rfl (by kernel_rfl) rfl (Alike_ct _ _ _ _ xn xm ((l.c.ix : Nat) : Int) ((l.c.ah : Nat) : Int) ((l4.c.term : Nat) : Int) ((l4.c.vote : Nat) : Int) ((l4.c.ix : Nat) : Int) ((l4.c.ah : Nat) : Int) (eiN K) (eiN rs114) _ (hH.row_reads 2 rfl) (row_rs (hH.row_reads 0 rfl)) (hH.row_reads 3 rfl) (row_rs (hH.row_reads 4 rfl)) (eiN_rb fun q hq => (hKm q hq).elim (fun h => enRows_rb hH 1 rfl q h) (fun ⟨x, hx, h⟩ => by rw [h]; exact (hxq x hx).mono hH.zin)) (eiN_rb (enRows_rb hH 5 rfl))) ?_)
  rintro _ w144 ⟨b142, rfl, hb143, hF145⟩
  replace hH := hH.call hF145; clear hF145
  refine glo 1 [(6, Pp b1 0), (16, .slice A78 4 c79), (17, .slice AK K.length cK), (21, .slice A121 4 c122), (22, .slice A125 rs114.length c126), (23, .bool b142), (24, Ni j)] ?_
  refine gl_dn rfl ?_
  refine sw_seq ?_
  refine sw_sr ?_
  refine glo 1 [(6, Pp b1 0), (16, .slice A78 4 c79), (17, .slice AK K.length cK), (21, .slice A121 4 c122), (22, .slice A125 rs114.length c126), (24, Ni j), (166, .bool b142)] ?_
  refine gl_dn rfl ?_
  refine sw_cond rfl rfl (fun hc13 => ?_) (fun hc13 => ?_)
  ·
   refine sw_sr ?_
   refine glo 1 [(10, .bool true)] ?_
   refine gl_dn rfl ?_
   refine sw_ret ?_
   refine thR ?_
   refine bkR ?_
   refine thR ?_
   refine thR ?_
   refine bkR ?_
   refine thR ?_
   refine ret1 rfl rfl  ?_
   exact ⟨rfl, (hH.sublist sln).fresh⟩
  have hjJ : j ≠ J := fun h9 => by subst h9; have h8 := hb143.2 ⟨⟨hn1.symm, hn2.symm, by rw [hn3], by rw [hn4]⟩, by rw [eiN_fst, eiN_fst, hKf, hrs115, hn5, Option.some.inj (hcj.symm.trans hJ2)]⟩; rw [hc13] at h8; cases h8
  have hlt : j < J := by omega
  refine sw_skip ?_
  refine sw_next ?_
  refine sw_sr ?_
  refine glo 2 [(6, Pp b1 0), (16, .slice A78 4 c79), (17, .slice AK K.length cK), (21, .slice A121 4 c122), (22, .slice A125 rs114.length c126), (24, Ni j), (167, Ni j), (168, Pp b1 3)] ?_
  refine gl_q rfl rfl rfl (rd_loadK 6 (by kernel_rfl) hH rfl rfl rfl) ?_
  refine gl_q rfl rfl rfl (rd_len (e := 64) (by kernel_rfl) rfl) ?_
  refine glo 1 [(6, Pp b1 0), (16, .slice A78 4 c79), (17, .slice AK K.length cK), (21, .slice A121 4 c122), (22, .slice A125 rs114.length c126), (24, Ni j), (171, .bool (decide (((j : Nat) : Int) < ((xL.length : Nat) : Int))))] ?_
  refine gl_dn rfl ?_
  refine sw_cond rfl rfl (fun hc14 => ?_) (fun hc14 => ?_)
  rotate_left
  · exact absurd hc14 (by simp only [decide_eq_false_iff_not, beq_eq_false_iff_ne, bne_eq_false_iff_eq, ne_eq, Decidable.not_not, Int.not_lt, Int.not_le]; omega)
  clear hc14
  refine sw_seq ?_
  obtain ⟨⟨⟨ix, tm, kd, dq⟩, vq⟩, hq⟩ : ∃ x, xL[j]? = some x := ⟨_, List.getElem?_eq_getElem (by omega)⟩
  have kq : RB w.cell? vq dq := hxq _ (List.mem_of_getElem? hq)
  obtain ⟨Ad, cd, rfl, _, _⟩ := kq.row.form
  have hq1 : (xL.map (·.1))[j]? = some ⟨ix, tm, kd, dq⟩ := by rw [List.getElem?_map, hq]; rfl
  obtain ⟨ho1, ho2, ho3⟩ := hxok _ (List.mem_of_getElem? hq)
  obtain ⟨p1, p2, p3, p4, p5, p6, hnext⟩ := puts_step hpall hcj hq1
  simp only at ho1 ho2 ho3 p1 p2 p5 p6 hnext
  obtain ⟨P, hP⟩ : ∃ P, ix.toNat - l.c.ix - 1 = P := ⟨_, rfl⟩
  rw [hP] at hnext
  refine sw_draw (by kernel_rfl) (fun w_ => Hp w w_ (w.cell?) [] [.row (.slice AK K.length cK) 64 4 K.length (rowC enC K), enRows rs71, .row (.slice A78 4 c79) 3 1 4 [.int .i64 xn, .int .i64 xm, .int .i64 ((l.c.ix : Nat) : Int), .int .i64 ((l.c.ah : Nat) : Int)], .row (.slice A121 4 c122) 3 1 4 [.int .i64 ((l4.c.term : Nat) : Int), .int .i64 ((l4.c.vote : Nat) : Int), .int .i64 ((l4.c.ix : Nat) : Int), .int .i64 ((l4.c.ah : Nat) : Int)], .row (.slice A125 rs114.length c126) 64 4 rs114.length (rowC enC rs114), enRows rs114, .blk b1 47 [.int .i64 xd, .int .i64 xn, .int .i64 xm, .slice Ax xL.length cx, xk, .string (bs xs), xb]]) ?_
  replace hH := hH.drew
  generalize { w144 with drawn := w144.drawn + 1 } = w146 at hH ⊢
  have hS9 := hH.sublist (slk (slk (slk (slk (slk (slk (slk sln)))))))
  refine gdo 1 [0] [(6, Pp b1 0), (16, .slice A78 4 c79), (17, .slice AK K.length cK), (21, .slice A121 4 c122), (22, .slice A125 rs114.length c126), (24, Ni j), (172, Pp b1 3)] hS9 (PQ.th (PQ.bk (PQ.th (PQ.th (PQ.bk (PQ.th PQ.body)))))) ?_
  refine gdq 1 rfl (fun w_ hS => (rd_loadK 6 (by kernel_rfl) hS rfl rfl rfl)) hS9 (PQ.th (PQ.bk (PQ.th (PQ.th (PQ.bk (PQ.th PQ.body)))))) ?_
  obtain ⟨p147, hi149, hp148⟩ := hxR.idx j (by omega) (by decide)
  refine gdo 1 [2] [(6, Pp b1 0), (16, .slice A78 4 c79), (17, .slice AK K.length cK), (21, .slice A121 4 c122), (22, .slice A125 rs114.length c126), (24, Ni j), (173, .slice Ax xL.length cx), (174, Ni j)] hS9 (PQ.th (PQ.bk (PQ.th (PQ.th (PQ.bk (PQ.th PQ.body)))))) ?_
  refine gdq 3 rfl (fun w_ hS => (rd_idx (e := 64) (m := 4) (by kernel_rfl) (by kernel_rfl) rfl rfl hi149)) hS9 (PQ.th (PQ.bk (PQ.th (PQ.th (PQ.bk (PQ.th PQ.body)))))) ?_
  refine gdo 1 [4] [(6, Pp b1 0), (16, .slice A78 4 c79), (17, .slice AK K.length cK), (21, .slice A121 4 c122), (22, .slice A125 rs114.length c126), (24, Ni j), (176, .pointer (some p147))] hS9 (PQ.th (PQ.bk (PQ.th (PQ.th (PQ.bk (PQ.th PQ.body)))))) ?_
  refine gdq 5 rfl (fun w_ hS => (rd_load (by kernel_rfl) rfl (hS.zin _ _ (hp148 0 _ (by decide) (rowC_at eiC_len hq 0 (by decide) rfl))))) hS9 (PQ.th (PQ.bk (PQ.th (PQ.th (PQ.bk (PQ.th PQ.body)))))) ?_
  obtain ⟨b151, hb150, hi152⟩ := hH.row_idx 2 rfl 2 (by omega)
  refine gdo 1 [6] [(6, Pp b1 0), (16, .slice A78 4 c79), (17, .slice AK K.length cK), (21, .slice A121 4 c122), (22, .slice A125 rs114.length c126), (24, Ni j), (177, .int .i64 ix), (178, .slice A78 4 c79)] hS9 (PQ.th (PQ.bk (PQ.th (PQ.th (PQ.bk (PQ.th PQ.body)))))) ?_
  refine gdq 7 rfl (fun w_ hS => (rd_idx (e := 3) (m := 1) (by kernel_rfl) (by kernel_rfl) rfl rfl hi152)) hS9 (PQ.th (PQ.bk (PQ.th (PQ.th (PQ.bk (PQ.th PQ.body)))))) ?_
  refine gdq 8 rfl (fun w_ hS => (rd_loadO 2 (by kernel_rfl) hS rfl rfl hb150 rfl)) hS9 (PQ.th (PQ.bk (PQ.th (PQ.th (PQ.bk (PQ.th PQ.body)))))) ?_
  refine gdo 1 [9] [(6, Pp b1 0), (16, .slice A78 4 c79), (17, .slice AK K.length cK), (21, .slice A121 4 c122), (22, .slice A125 rs114.length c126), (24, Ni j), (177, .int .i64 ix), (180, .int .i64 ((l.c.ix : Nat) : Int)), (181, .int .i64 (IntKind.i64.wrap (ix - ((l.c.ix : Nat) : Int))))] hS9 (PQ.th (PQ.bk (PQ.th (PQ.th (PQ.bk (PQ.th PQ.body)))))) ?_
  refine gd_cv 181 (.int .i64 (ix - ((l.c.ix : Nat) : Int))) (cv_i64 (by omega)) rfl ?_
  refine gdo 1 [10] [(6, Pp b1 0), (16, .slice A78 4 c79), (17, .slice AK K.length cK), (21, .slice A121 4 c122), (22, .slice A125 rs114.length c126), (24, Ni j), (181, .int .i64 (ix - ((l.c.ix : Nat) : Int))), (182, .int .i64 (IntKind.i64.wrap ((ix - ((l.c.ix : Nat) : Int)) - 1)))] hS9 (PQ.th (PQ.bk (PQ.th (PQ.th (PQ.bk (PQ.th PQ.body)))))) ?_
  refine gd_cv 182 (Ni P) (cv_i64 (by omega)) rfl ?_
  refine gdo 1 [11] [(6, Pp b1 0), (16, .slice A78 4 c79), (17, .slice AK K.length cK), (21, .slice A121 4 c122), (22, .slice A125 rs114.length c126), (24, Ni j), (25, Ni P)] hS9 (PQ.th (PQ.bk (PQ.th (PQ.th (PQ.bk (PQ.th PQ.body)))))) ?_
  refine gdn [(6, Pp b1 0), (16, .slice A78 4 c79), (17, .slice AK K.length cK), (21, .slice A121 4 c122), (22, .slice A125 rs114.length c126), (24, Ni j), (25, Ni P)] ?_
  refine sw_next ?_
  refine sw_seq ?_
  refine sw_sr ?_
  refine glo 3 [(6, Pp b1 0), (16, .slice A78 4 c79), (17, .slice AK K.length cK), (21, .slice A121 4 c122), (22, .slice A125 rs114.length c126), (24, Ni j), (25, Ni P), (185, .bool (decide (((P : Nat) : Int) < (0 : Int))))] ?_
  refine gl_split 185 (b := decide (((P : Nat) : Int) < (0 : Int))) rfl (fun hg15 => ?_) (fun hg15 => ?_)
  ·
   try simp only [decide_eq_true_eq] at hg15
   exfalso; omega
  try simp only [decide_eq_false_iff_not, Int.not_lt, Int.not_le] at hg15
  refine glo 2 [(6, Pp b1 0), (16, .slice A78 4 c79), (17, .slice AK K.length cK), (21, .slice A121 4 c122), (22, .slice A125 rs114.length c126), (24, Ni j), (25, Ni P), (185, .bool false), (186, Ni P), (187, .slice AK K.length cK)] ?_
  refine gl_q rfl rfl rfl (rd_len (e := 64) (by kernel_rfl) rfl) ?_
  refine glo 2 [(6, Pp b1 0), (16, .slice A78 4 c79), (17, .slice AK K.length cK), (21, .slice A121 4 c122), (22, .slice A125 rs114.length c126), (24, Ni j), (25, Ni P), (190, .bool (decide (((P : Nat) : Int) > ((K.length : Nat) : Int))))] ?_
  refine gl_dn rfl ?_
  refine sw_cond rfl rfl (fun hc16 => ?_) (fun hc16 => ?_)
  · exact absurd hc16 (by simp only [decide_eq_true_eq, beq_iff_eq, bne_iff_ne, ne_eq]; omega)
  clear hc16
  refine sw_skip ?_
  refine sw_next ?_
  refine sw_draw (by kernel_rfl) (fun w_ => Hp w w_ (w.cell?) [] [.row (.slice AK K.length cK) 64 4 K.length (rowC enC K), enRows rs71, .row (.slice A78 4 c79) 3 1 4 [.int .i64 xn, .int .i64 xm, .int .i64 ((l.c.ix : Nat) : Int), .int .i64 ((l.c.ah : Nat) : Int)], .row (.slice A121 4 c122) 3 1 4 [.int .i64 ((l4.c.term : Nat) : Int), .int .i64 ((l4.c.vote : Nat) : Int), .int .i64 ((l4.c.ix : Nat) : Int), .int .i64 ((l4.c.ah : Nat) : Int)], .row (.slice A125 rs114.length c126) 64 4 rs114.length (rowC enC rs114), enRows rs114, .blk b1 47 [.int .i64 xd, .int .i64 xn, .int .i64 xm, .slice Ax xL.length cx, xk, .string (bs xs), xb]]) ?_
  replace hH := hH.drew
  generalize { w146 with drawn := w146.drawn + 1 } = w153 at hH ⊢
  have hS9 := hH.sublist (slk (slk (slk (slk (slk (slk (slk sln)))))))
  obtain ⟨A154, hk155, hv156⟩ := hH.row_win 0 rfl 0 P cK (by omega) (by omega) (by omega) (by omega)
  refine gdo 2 [1,2] [(6, Pp b1 0), (16, .slice A78 4 c79), (17, .slice AK K.length cK), (21, .slice A121 4 c122), (22, .slice A125 rs114.length c126), (24, Ni j), (192, .slice AK K.length cK), (193, Ni P)] hS9 (PQ.bk (PQ.th (PQ.th (PQ.bk (PQ.th PQ.body))))) ?_
  refine gdq 3 rfl (fun w_ hS => (rd_cut (e := 64) (m := 4) (by kernel_rfl) (by kernel_rfl) rfl (.inl ⟨rfl, rfl⟩) (.inr ⟨_, _, rfl, rfl⟩) hk155)) hS9 (PQ.bk (PQ.th (PQ.th (PQ.bk (PQ.th PQ.body))))) ?_
  refine gdo 1 [5] [(6, Pp b1 0), (16, .slice A78 4 c79), (17, .slice AK K.length cK), (21, .slice A121 4 c122), (22, .slice A125 rs114.length c126), (24, Ni j), (194, .slice A154 (P - 0) (cK - 0)), (196, Pp b1 3)] hS9 (PQ.bk (PQ.th (PQ.th (PQ.bk (PQ.th PQ.body))))) ?_
  refine gdq 6 rfl (fun w_ hS => (rd_loadK 6 (by kernel_rfl) hS rfl rfl rfl)) hS9 (PQ.bk (PQ.th (PQ.th (PQ.bk (PQ.th PQ.body))))) ?_
  obtain ⟨p157, hi159, hp158⟩ := hxR.idx j (by omega) (by decide)
  refine gdo 1 [7] [(6, Pp b1 0), (16, .slice A78 4 c79), (17, .slice AK K.length cK), (21, .slice A121 4 c122), (22, .slice A125 rs114.length c126), (24, Ni j), (194, .slice A154 (P - 0) (cK - 0)), (197, .slice Ax xL.length cx), (198, Ni j)] hS9 (PQ.bk (PQ.th (PQ.th (PQ.bk (PQ.th PQ.body))))) ?_
  refine gdq 8 rfl (fun w_ hS => (rd_idx (e := 64) (m := 4) (by kernel_rfl) (by kernel_rfl) rfl rfl hi159)) hS9 (PQ.bk (PQ.th (PQ.th (PQ.bk (PQ.th PQ.body))))) ?_
  refine gdq 9 rfl (fun w_ hS => (rd_loadZA (by kernel_rfl) hS hp158 rfl 0 rfl [.int .i64 ix, .int .i64 tm, .int .i64 kd, .slice Ad dq.length cd] (by kernel_rfl) (rowC_all eiC_len hq 0 _ rfl))) hS9 (PQ.bk (PQ.th (PQ.th (PQ.bk (PQ.th PQ.body))))) ?_
  refine gd_st2 0 10 (by kernel_rfl) ?_ ?_
  ·
   refine st_buildS0 (e := 64) (m := 4) rfl rfl rfl (by kernel_rfl) (by kernel_rfl) hH ?_
   clear hH; intro b160 w161 hH
   replace hS9 := hH.sublist (slk (slk (slk (slk (slk (slk (slk sln)))))))
   refine ⟨hS9, ?_⟩
   refine gdk [(6, Pp b1 0), (16, .slice A78 4 c79), (17, .slice AK K.length cK), (21, .slice A121 4 c122), (22, .slice A125 rs114.length c126), (24, Ni j), (191, .slice (some ⟨b160, 0, none⟩) 0 0), (194, .slice A154 (P - 0) (cK - 0)), (200, .agg #[.int .i64 ix, .int .i64 tm, .int .i64 kd, .slice Ad dq.length cd])] ?_
   refine gd_st2 4 10 (by kernel_rfl) ?_ ?_
   ·
    have hKv : EnV (K.take P) := fun q hq => (enV_rb (c := w161.cell?) (fun q hq => (hKm q hq).elim (fun h => enRows_rb hH 1 rfl q h) (fun ⟨x, hx, h⟩ => by rw [h]; exact (hxq x hx).mono hH.zin))) q (List.mem_of_mem_take hq)
    have hPl : (K.take P).length = P := by rw [List.length_take]; omega
    refine st_appH (e := 64) (zv := .agg #[.int .i64 0, .int .i64 0, .int .i64 0, .slice none 0 0]) (m := 4) (bytes := 48) 7 rfl rfl rfl (by kernel_rfl) (by kernel_rfl) rfl (by decide) hH rfl rfl rfl (Win.reads hH 0 rfl hv156 (by omega) (by omega) (by omega)) (by intro u hu; rw [Nat.zero_mul, List.drop_zero, Nat.sub_zero, rowC_take enC_len] at hu; exact en_one hKv u hu) (by unfold maxLen; omega) (by omega) ?_
    clear hH; intro v162 w163 hH
    replace hH := hH.row_eq 7 (l' := (K.take P).length) (xs' := rowC enC (K.take P)) rfl (by omega) (by rw [List.nil_append, Nat.zero_mul, List.drop_zero, Nat.sub_zero, rowC_take enC_len])
    obtain ⟨A164, c165, rfl, hl166, hm167⟩ := hH.row_form 7 rfl
    replace hS9 := hH.sublist (slk (slk (slk (slk (slk (slk (slk sln)))))))
    refine ⟨hS9, ?_⟩
    refine gdk [(6, Pp b1 0), (16, .slice A78 4 c79), (17, .slice AK K.length cK), (21, .slice A121 4 c122), (22, .slice A125 rs114.length c126), (24, Ni j), (195, .slice A164 ((K.take P).length) c165), (200, .agg #[.int .i64 ix, .int .i64 tm, .int .i64 kd, .slice Ad dq.length cd])] ?_
    refine gds 10 (st_buildS (e := 64) (zv := .agg #[.int .i64 0, .int .i64 0, .int .i64 0, .slice none 0 0]) (m := 4) (bytes := 48) rfl rfl rfl (by kernel_rfl) (by kernel_rfl) rfl (cs := [.int .i64 ix, .int .i64 tm, .int .i64 kd, .slice Ad dq.length cd]) (by kernel_rfl) rfl hH ?_)
    clear hH; intro b168 w169 hH
    replace hH : Hp w w169 _ _ [_, _, _, _, _, _, _, _, _] := hH
    replace hS9 := hH.sublist (slk (slk (slk (slk (slk (slk (slk sln)))))))
    refine ⟨hS9, ?_⟩
    refine gds 11 (st_appH (e := 64) (zv := .agg #[.int .i64 0, .int .i64 0, .int .i64 0, .slice none 0 0]) (m := 4) (bytes := 48) 7 rfl rfl rfl (by kernel_rfl) (by kernel_rfl) rfl (by decide) hH rfl rfl rfl (hH.row_reads 8 rfl) (by simp [Value.oneCell']) (by unfold maxLen; omega) (by omega) ?_)
    clear hH; intro v170 w171 hH
    replace hH := hH.row_eq 7 (l' := (K.take P ++ [(EA.en ⟨ix, tm, kd, dq⟩, (.slice Ad dq.length cd : Value))]).length) (xs' := rowC enC (K.take P ++ [(EA.en ⟨ix, tm, kd, dq⟩, (.slice Ad dq.length cd : Value))])) rfl (by rw [List.length_append]; rfl) (rowC_snoc _ _ (en_cells (e := ⟨ix, tm, kd, dq⟩) (by simp only; omega) p1 p2 _))
    obtain ⟨A172, c173, rfl, hl174, hm175⟩ := hH.row_form 7 rfl
    replace hH : Hp w w171 _ _ [_, _, _, _, _, _, _, _, _] := hH
    replace hS9 := hH.sublist (slk (slk (slk (slk (slk (slk (slk sln)))))))
    refine ⟨hS9, ?_⟩
    refine gdo 1 [12] [(6, Pp b1 0), (16, .slice A78 4 c79), (17, .slice A172 ((K.take P ++ [(EA.en ⟨ix, tm, kd, dq⟩, (.slice Ad dq.length cd : Value))]).length) c173), (21, .slice A121 4 c122), (22, .slice A125 rs114.length c126), (24, Ni j)] hS9 (PQ.bk (PQ.th (PQ.th (PQ.bk (PQ.th PQ.body))))) ?_
    refine gdn [(6, Pp b1 0), (16, .slice A78 4 c79), (17, .slice A172 ((K.take P ++ [(EA.en ⟨ix, tm, kd, dq⟩, (.slice Ad dq.length cd : Value))]).length) c173), (21, .slice A121 4 c122), (22, .slice A125 rs114.length c126), (24, Ni j)] ?_
    refine bkN ?_
    refine sw_next ?_
    refine sw_region ?_
    refine glo 2 [(6, Pp b1 0), (16, .slice A78 4 c79), (17, .slice A172 ((K.take P ++ [(EA.en ⟨ix, tm, kd, dq⟩, (.slice Ad dq.length cd : Value))]).length) c173), (21, .slice A121 4 c122), (22, .slice A125 rs114.length c126), (160, .int .i64 (IntKind.i64.wrap (((j : Nat) : Int) + 1)))] ?_
    refine gl_cv 160 (Ni (j + 1)) (cv_i64 (by omega)) rfl ?_
    refine glo 1 [(6, Pp b1 0), (16, .slice A78 4 c79), (17, .slice A172 ((K.take P ++ [(EA.en ⟨ix, tm, kd, dq⟩, (.slice Ad dq.length cd : Value))]).length) c173), (21, .slice A121 4 c122), (22, .slice A125 rs114.length c126), (24, Ni (j + 1))] ?_
    refine gl_done rfl ?_
    refine rnd_end (g := (j, cj, K, AK, cK)) (j + 1, { cj with es := cj.es.take P ++ [EA.en ⟨ix, tm, kd, dq⟩] }, K.take P ++ [(EA.en ⟨ix, tm, kd, dq⟩, .slice Ad dq.length cd)], A172, c173) (by kernel_rfl) ?_ ?_
    replace hH := hH.fr7.fr7.fr7.fr7.fr7.fr7.fr8
    replace hH : Hp w w171 _ _ [_, _, _, _, _, _, _] := (hH.sublist (slk (slk (slk (slk (slk (slk (slk sln))))))))
    · exact ⟨hnext, by rw [List.map_append, List.map_take, hKf]; rfl, fun q9 hq9 => (List.mem_append.1 hq9).elim (fun h => hKm q9 (List.mem_of_mem_take h)) (fun h => .inr ⟨_, List.mem_of_getElem? hq, List.mem_singleton.1 h⟩), by omega, hH⟩
    · show xL.length - (j + 1) < xL.length - j; omega
   ·
    refine st_buildS (e := 64) (zv := .agg #[.int .i64 0, .int .i64 0, .int .i64 0, .slice none 0 0]) (m := 4) (bytes := 48) rfl rfl rfl (by kernel_rfl) (by kernel_rfl) rfl (cs := [.int .i64 ix, .int .i64 tm, .int .i64 kd, .slice Ad dq.length cd]) (by kernel_rfl) rfl hH ?_
    clear hH; intro b176 w177 hH
    replace hH : Hp w w177 _ _ [_, _, _, _, _, _, _, _, _] := hH
    replace hS9 := hH.sublist (slk (slk (slk (slk (slk (slk (slk sln)))))))
    refine ⟨hS9, ?_⟩
    refine gdk [(6, Pp b1 0), (16, .slice A78 4 c79), (17, .slice AK K.length cK), (21, .slice A121 4 c122), (22, .slice A125 rs114.length c126), (24, Ni j), (191, .slice (some ⟨b160, 0, none⟩) 0 0), (194, .slice A154 (P - 0) (cK - 0)), (201, .slice (some ⟨b176, 0, none⟩) 1 1)] ?_
    have hKv : EnV (K.take P) := fun q hq => (enV_rb (c := w177.cell?) (fun q hq => (hKm q hq).elim (fun h => enRows_rb hH 1 rfl q h) (fun ⟨x, hx, h⟩ => by rw [h]; exact (hxq x hx).mono hH.zin))) q (List.mem_of_mem_take hq)
    have hPl : (K.take P).length = P := by rw [List.length_take]; omega
    refine gds 4 (st_appH (e := 64) (zv := .agg #[.int .i64 0, .int .i64 0, .int .i64 0, .slice none 0 0]) (m := 4) (bytes := 48) 7 rfl rfl rfl (by kernel_rfl) (by kernel_rfl) rfl (by decide) hH rfl rfl rfl (Win.reads hH 0 rfl hv156 (by omega) (by omega) (by omega)) (by intro u hu; rw [Nat.zero_mul, List.drop_zero, Nat.sub_zero, rowC_take enC_len] at hu; exact en_one hKv u hu) (by unfold maxLen; omega) (by omega) ?_)
    clear hH; intro v178 w179 hH
    replace hH := hH.row_eq 7 (l' := (K.take P).length) (xs' := rowC enC (K.take P)) rfl (by omega) (by rw [List.nil_append, Nat.zero_mul, List.drop_zero, Nat.sub_zero, rowC_take enC_len])
    obtain ⟨A180, c181, rfl, hl182, hm183⟩ := hH.row_form 7 rfl
    replace hH : Hp w w179 _ _ [_, _, _, _, _, _, _, _, _] := hH
    replace hS9 := hH.sublist (slk (slk (slk (slk (slk (slk (slk sln)))))))
    refine ⟨hS9, ?_⟩
    refine gds 11 (st_appH (e := 64) (zv := .agg #[.int .i64 0, .int .i64 0, .int .i64 0, .slice none 0 0]) (m := 4) (bytes := 48) 7 rfl rfl rfl (by kernel_rfl) (by kernel_rfl) rfl (by decide) hH rfl rfl rfl (hH.row_reads 8 rfl) (by simp [Value.oneCell']) (by unfold maxLen; omega) (by omega) ?_)
    clear hH; intro v184 w185 hH
    replace hH := hH.row_eq 7 (l' := (K.take P ++ [(EA.en ⟨ix, tm, kd, dq⟩, (.slice Ad dq.length cd : Value))]).length) (xs' := rowC enC (K.take P ++ [(EA.en ⟨ix, tm, kd, dq⟩, (.slice Ad dq.length cd : Value))])) rfl (by rw [List.length_append]; rfl) (rowC_snoc _ _ (en_cells (e := ⟨ix, tm, kd, dq⟩) (by simp only; omega) p1 p2 _))
    obtain ⟨A186, c187, rfl, hl188, hm189⟩ := hH.row_form 7 rfl
    replace hH : Hp w w185 _ _ [_, _, _, _, _, _, _, _, _] := hH
    replace hS9 := hH.sublist (slk (slk (slk (slk (slk (slk (slk sln)))))))
    refine ⟨hS9, ?_⟩
    refine gdo 1 [12] [(6, Pp b1 0), (16, .slice A78 4 c79), (17, .slice A186 ((K.take P ++ [(EA.en ⟨ix, tm, kd, dq⟩, (.slice Ad dq.length cd : Value))]).length) c187), (21, .slice A121 4 c122), (22, .slice A125 rs114.length c126), (24, Ni j)] hS9 (PQ.bk (PQ.th (PQ.th (PQ.bk (PQ.th PQ.body))))) ?_
    refine gdn [(6, Pp b1 0), (16, .slice A78 4 c79), (17, .slice A186 ((K.take P ++ [(EA.en ⟨ix, tm, kd, dq⟩, (.slice Ad dq.length cd : Value))]).length) c187), (21, .slice A121 4 c122), (22, .slice A125 rs114.length c126), (24, Ni j)] ?_
    refine bkN ?_
    refine sw_next ?_
    refine sw_region ?_
    refine glo 2 [(6, Pp b1 0), (16, .slice A78 4 c79), (17, .slice A186 ((K.take P ++ [(EA.en ⟨ix, tm, kd, dq⟩, (.slice Ad dq.length cd : Value))]).length) c187), (21, .slice A121 4 c122), (22, .slice A125 rs114.length c126), (160, .int .i64 (IntKind.i64.wrap (((j : Nat) : Int) + 1)))] ?_
    refine gl_cv 160 (Ni (j + 1)) (cv_i64 (by omega)) rfl ?_
    refine glo 1 [(6, Pp b1 0), (16, .slice A78 4 c79), (17, .slice A186 ((K.take P ++ [(EA.en ⟨ix, tm, kd, dq⟩, (.slice Ad dq.length cd : Value))]).length) c187), (21, .slice A121 4 c122), (22, .slice A125 rs114.length c126), (24, Ni (j + 1))] ?_
    refine gl_done rfl ?_
    refine rnd_end (g := (j, cj, K, AK, cK)) (j + 1, { cj with es := cj.es.take P ++ [EA.en ⟨ix, tm, kd, dq⟩] }, K.take P ++ [(EA.en ⟨ix, tm, kd, dq⟩, .slice Ad dq.length cd)], A186, c187) (by kernel_rfl) ?_ ?_
    replace hH := hH.fr7.fr7.fr7.fr7.fr7.fr7.fr8
    replace hH : Hp w w185 _ _ [_, _, _, _, _, _, _] := (hH.sublist (slk (slk (slk (slk (slk (slk (slk sln))))))))
    · exact ⟨hnext, by rw [List.map_append, List.map_take, hKf]; rfl, fun q9 hq9 => (List.mem_append.1 hq9).elim (fun h => hKm q9 (List.mem_of_mem_take h)) (fun h => .inr ⟨_, List.mem_of_getElem? hq, List.mem_singleton.1 h⟩), by omega, hH⟩
    · show xL.length - (j + 1) < xL.length - j; omega
  ·
   refine st_buildS (e := 64) (zv := .agg #[.int .i64 0, .int .i64 0, .int .i64 0, .slice none 0 0]) (m := 4) (bytes := 48) rfl rfl rfl (by kernel_rfl) (by kernel_rfl) rfl (cs := [.int .i64 ix, .int .i64 tm, .int .i64 kd, .slice Ad dq.length cd]) (by kernel_rfl) rfl hH ?_
   clear hH; intro b190 w191 hH
   replace hS9 := hH.sublist (slk (slk (slk (slk (slk (slk (slk sln)))))))
   refine ⟨hS9, ?_⟩
   refine gdk [(6, Pp b1 0), (16, .slice A78 4 c79), (17, .slice AK K.length cK), (21, .slice A121 4 c122), (22, .slice A125 rs114.length c126), (24, Ni j), (194, .slice A154 (P - 0) (cK - 0)), (201, .slice (some ⟨b190, 0, none⟩) 1 1)] ?_
   refine gds 0 (st_buildS0 (e := 64) (m := 4) rfl rfl rfl (by kernel_rfl) (by kernel_rfl) hH ?_)
   clear hH; intro b192 w193 hH
   replace hH : Hp w w193 _ _ [_, _, _, _, _, _, _, _, _] := hH
   replace hS9 := hH.sublist (slk (slk (slk (slk (slk (slk (slk sln)))))))
   refine ⟨hS9, ?_⟩
   have hKv : EnV (K.take P) := fun q hq => (enV_rb (c := w193.cell?) (fun q hq => (hKm q hq).elim (fun h => enRows_rb hH 1 rfl q h) (fun ⟨x, hx, h⟩ => by rw [h]; exact (hxq x hx).mono hH.zin))) q (List.mem_of_mem_take hq)
   have hPl : (K.take P).length = P := by rw [List.length_take]; omega
   refine gds 4 (st_appH (e := 64) (zv := .agg #[.int .i64 0, .int .i64 0, .int .i64 0, .slice none 0 0]) (m := 4) (bytes := 48) 8 rfl rfl rfl (by kernel_rfl) (by kernel_rfl) rfl (by decide) hH rfl rfl rfl (Win.reads hH 0 rfl hv156 (by omega) (by omega) (by omega)) (by intro u hu; rw [Nat.zero_mul, List.drop_zero, Nat.sub_zero, rowC_take enC_len] at hu; exact en_one hKv u hu) (by unfold maxLen; omega) (by omega) ?_)
   clear hH; intro v194 w195 hH
   replace hH := hH.row_eq 8 (l' := (K.take P).length) (xs' := rowC enC (K.take P)) rfl (by omega) (by rw [List.nil_append, Nat.zero_mul, List.drop_zero, Nat.sub_zero, rowC_take enC_len])
   obtain ⟨A196, c197, rfl, hl198, hm199⟩ := hH.row_form 8 rfl
   replace hH : Hp w w195 _ _ [_, _, _, _, _, _, _, _, _] := hH
   replace hS9 := hH.sublist (slk (slk (slk (slk (slk (slk (slk sln)))))))
   refine ⟨hS9, ?_⟩
   refine gds 11 (st_appH (e := 64) (zv := .agg #[.int .i64 0, .int .i64 0, .int .i64 0, .slice none 0 0]) (m := 4) (bytes := 48) 8 rfl rfl rfl (by kernel_rfl) (by kernel_rfl) rfl (by decide) hH rfl rfl rfl (hH.row_reads 7 rfl) (by simp [Value.oneCell']) (by unfold maxLen; omega) (by omega) ?_)
   clear hH; intro v200 w201 hH
   replace hH := hH.row_eq 8 (l' := (K.take P ++ [(EA.en ⟨ix, tm, kd, dq⟩, (.slice Ad dq.length cd : Value))]).length) (xs' := rowC enC (K.take P ++ [(EA.en ⟨ix, tm, kd, dq⟩, (.slice Ad dq.length cd : Value))])) rfl (by rw [List.length_append]; rfl) (rowC_snoc _ _ (en_cells (e := ⟨ix, tm, kd, dq⟩) (by simp only; omega) p1 p2 _))
   obtain ⟨A202, c203, rfl, hl204, hm205⟩ := hH.row_form 8 rfl
   replace hH : Hp w w201 _ _ [_, _, _, _, _, _, _, _, _] := hH
   replace hS9 := hH.sublist (slk (slk (slk (slk (slk (slk (slk sln)))))))
   refine ⟨hS9, ?_⟩
   refine gdk [(6, Pp b1 0), (16, .slice A78 4 c79), (17, .slice AK K.length cK), (21, .slice A121 4 c122), (22, .slice A125 rs114.length c126), (24, Ni j), (202, .slice A202 ((K.take P ++ [(EA.en ⟨ix, tm, kd, dq⟩, (.slice Ad dq.length cd : Value))]).length) c203)] ?_
   refine gdo 1 [12] [(6, Pp b1 0), (16, .slice A78 4 c79), (17, .slice A202 ((K.take P ++ [(EA.en ⟨ix, tm, kd, dq⟩, (.slice Ad dq.length cd : Value))]).length) c203), (21, .slice A121 4 c122), (22, .slice A125 rs114.length c126), (24, Ni j)] hS9 (PQ.bk (PQ.th (PQ.th (PQ.bk (PQ.th PQ.body))))) ?_
   refine gdn [(6, Pp b1 0), (16, .slice A78 4 c79), (17, .slice A202 ((K.take P ++ [(EA.en ⟨ix, tm, kd, dq⟩, (.slice Ad dq.length cd : Value))]).length) c203), (21, .slice A121 4 c122), (22, .slice A125 rs114.length c126), (24, Ni j)] ?_
   refine bkN ?_
   refine sw_next ?_
   refine sw_region ?_
   refine glo 2 [(6, Pp b1 0), (16, .slice A78 4 c79), (17, .slice A202 ((K.take P ++ [(EA.en ⟨ix, tm, kd, dq⟩, (.slice Ad dq.length cd : Value))]).length) c203), (21, .slice A121 4 c122), (22, .slice A125 rs114.length c126), (160, .int .i64 (IntKind.i64.wrap (((j : Nat) : Int) + 1)))] ?_
   refine gl_cv 160 (Ni (j + 1)) (cv_i64 (by omega)) rfl ?_
   refine glo 1 [(6, Pp b1 0), (16, .slice A78 4 c79), (17, .slice A202 ((K.take P ++ [(EA.en ⟨ix, tm, kd, dq⟩, (.slice Ad dq.length cd : Value))]).length) c203), (21, .slice A121 4 c122), (22, .slice A125 rs114.length c126), (24, Ni (j + 1))] ?_
   refine gl_done rfl ?_
   refine rnd_end (g := (j, cj, K, AK, cK)) (j + 1, { cj with es := cj.es.take P ++ [EA.en ⟨ix, tm, kd, dq⟩] }, K.take P ++ [(EA.en ⟨ix, tm, kd, dq⟩, .slice Ad dq.length cd)], A202, c203) (by kernel_rfl) ?_ ?_
   replace hH := hH.fr7.fr7.fr7.fr7.fr7.fr7.fr9
   replace hH : Hp w w201 _ _ [_, _, _, _, _, _, _] := (hH.sublist (slk (slk (slk (slk (slk (slk (slk sln))))))))
   · exact ⟨hnext, by rw [List.map_append, List.map_take, hKf]; rfl, fun q9 hq9 => (List.mem_append.1 hq9).elim (fun h => hKm q9 (List.mem_of_mem_take h)) (fun h => .inr ⟨_, List.mem_of_getElem? hq, List.mem_singleton.1 h⟩), by omega, hH⟩
   · show xL.length - (j + 1) < xL.length - j; omega
 try simp only [decide_eq_false_iff_not, Int.not_lt, Int.not_le] at hg3
 refine glo 3 [(0, .slice Aa ac.length ca), (2, .int .i64 aq), (3, .int .i64 part), (4, .slice Ak ks.length ck), (6, Pp b1 0), (12, Pp db5 0), (13, Pp g9 0), (15, Ni i), (52, .bool false)] ?_
 refine gl_dn rfl ?_
 refine sw_false rfl rfl ?_
 refine sw_exit ?_
 refine thX ?_
 refine thX ?_
 refine bkH ?_
 refine sw_next ?_
 have hal := wtW_le ac i
 refine sw_sr ?_
 refine glo 1 [(2, .int .i64 aq), (3, .int .i64 part), (4, .slice Ak ks.length ck), (6, Pp b1 0), (12, Pp db5 0), (13, Pp g9 0), (97, Pp g9 0)] ?_
 refine gl_st (st_call rfl rfl rfl (by kernel_rfl) rfl (What_ct g9 l.c _ es _ (hH.blk_cell 0 rfl rfl) (hH.blk_cell 0 rfl rfl) (hH.blk_cell 0 rfl rfl) (hH.blk_cell 0 rfl rfl) (hH.blk_cell 0 rfl rfl) (hL.row.mono (pz_le hH 1 rfl)) (fun q hq => (hL.ok q hq).1.d.mono (pz_le hH 1 rfl)) (fun q hq => (hL.ok q hq).2) (by have h9 := hL.len; have h8 := hI.cnt; omega)) ?_)
 rintro _ w213 ⟨v206, v207, rs208, rfl, hrs209, hF214⟩
 replace hH := hH.call hF214; clear hF214
 rw [hL.fst] at hrs209
 obtain ⟨A215, c216, rfl, hl217, hm218⟩ := hH.row_form 4 rfl
 obtain ⟨A219, c220, rfl, hl221, hm222⟩ := hH.row_form 5 rfl
 refine glo 5 [(2, .int .i64 aq), (3, .int .i64 part), (4, .slice Ak ks.length ck), (6, Pp b1 0), (12, Pp db5 0), (13, Pp g9 0), (16, .slice A215 4 c216), (17, .slice A219 rs208.length c220)] ?_
 refine gl_dn rfl ?_
 refine sw_sr ?_
 obtain ⟨A9, hA9⟩ : ∃ A, IntKind.i64.wrap (((BitVec.ofInt 64 aq &&& BitVec.ofInt 64 1).toNat : Nat) : Int) = A := ⟨_, rfl⟩
 refine glo 3 [(3, .int .i64 part), (4, .slice Ak ks.length ck), (6, Pp b1 0), (12, Pp db5 0), (13, Pp g9 0), (16, .slice A215 4 c216), (17, .slice A219 rs208.length c220), (101, Pp db5 0), (103, .int .i64 (IntKind.i64.wrap (((BitVec.ofInt 64 aq &&& BitVec.ofInt 64 1).toNat : Nat) : Int)))] ?_
 refine gl_cv 103 (.int .i64 A9) (congrArg _ hA9) rfl ?_
 refine glo 1 [(4, .slice Ak ks.length ck), (6, Pp b1 0), (12, Pp db5 0), (13, Pp g9 0), (16, .slice A215 4 c216), (17, .slice A219 rs208.length c220), (101, Pp db5 0), (103, .int .i64 A9), (104, .int .i64 part)] ?_
 replace hH : Hp w w213 _ _ ([_] ++ [_, _, _, _, _, _]) := hH.fr3
 refine gl_st (st_call rfl rfl rfl (by kernel_rfl) rfl (Arm_ct db5 mb6 0 D pe A9 part _ hH.mine) ?_)
 rintro _ w224 ⟨ab223, rfl, hF225⟩
 replace hH := hH.turns hF225; clear hF225
 replace hH : Hp w w224 _ _ [_, _, _, _, _, _, _] := hH
 refine gl_dn rfl ?_
 refine sw_sr ?_
 refine glo 2 [(4, .slice Ak ks.length ck), (6, Pp b1 0), (12, Pp db5 0), (16, .slice A215 4 c216), (17, .slice A219 rs208.length c220), (106, Pp g9 0), (107, Pp b1 1)] ?_
 refine gl_q rfl rfl rfl (rd_loadK 2 (by kernel_rfl) hH rfl rfl rfl) ?_
 refine glo 1 [(4, .slice Ak ks.length ck), (6, Pp b1 0), (12, Pp db5 0), (16, .slice A215 4 c216), (17, .slice A219 rs208.length c220), (106, Pp g9 0), (108, .int .i64 xn), (109, Pp b1 2)] ?_
 refine gl_q rfl rfl rfl (rd_loadK 2 (by kernel_rfl) hH rfl rfl rfl) ?_
 refine glo 1 [(4, .slice Ak ks.length ck), (6, Pp b1 0), (12, Pp db5 0), (16, .slice A215 4 c216), (17, .slice A219 rs208.length c220), (106, Pp g9 0), (108, .int .i64 xn), (110, .int .i64 xm), (111, Pp b1 3)] ?_
 refine gl_q rfl rfl rfl (rd_loadK 2 (by kernel_rfl) hH rfl rfl rfl) ?_
 obtain ⟨R, hsv⟩ : ∃ R, saveL (armD D A9 part) l xn xm (xL.map (·.1)) = R := ⟨_, rfl⟩
 replace hH : Hp w w224 _ _ ([_, _, _] ++ [_, _, _, _]) := hH.fr7.fr3.fr3
 refine gl_st (st_call rfl rfl rfl (by kernel_rfl) rfl (by have h9 := SaveG_ct (D := D) (mb := mb6) (ab := ab223) g9 xn xm ve _ es xL pl pe (armD D A9 part) rfl (arOk_arm A9 part (by rw [← hA9]; exact and1_le _) D) hH.mine hI (by omega) (by omega) hL (hxR.mono hH.zoff) (fun q hq => (hxq q hq).mono hH.zoff) hxok hxn hxm hR; unfold SavePost at h9; rw [hsv] at h9; exact h9) ?_)
 rintro _ w232 ⟨pe229, es226, ve227, pl228, rfl, ⟨hR230, hL231⟩, hF233⟩
 replace hH := hH.turns hF233; clear hF233
 replace hH : Hp w w232 _ _ [_, _, _, _, _, _, _] := hH
 refine glo 1 [(4, .slice Ak ks.length ck), (6, Pp b1 0), (12, Pp db5 0), (16, .slice A215 4 c216), (17, .slice A219 rs208.length c220), (18, errV R.2.2)] ?_
 refine gl_dn rfl ?_
 refine sw_seq ?_
 refine sw_sr ?_
 refine glo 1 [(4, .slice Ak ks.length ck), (6, Pp b1 0), (12, Pp db5 0), (16, .slice A215 4 c216), (17, .slice A219 rs208.length c220), (18, errV R.2.2), (114, errV R.2.2)] ?_
 refine gl_q rfl rfl rfl (rd_err_eq (by kernel_rfl) rfl) ?_
 refine glo 1 [(4, .slice Ak ks.length ck), (6, Pp b1 0), (12, Pp db5 0), (16, .slice A215 4 c216), (17, .slice A219 rs208.length c220), (18, errV R.2.2), (116, .bool (R.2.2 == 0))] ?_
 refine gl_split 116 (b := R.2.2 == 0) rfl (fun hg18 => ?_) (fun hg18 => ?_)
 ·
  try simp only [beq_iff_eq] at hg18
  refine glo 4 [(4, .slice Ak ks.length ck), (6, Pp b1 0), (12, Pp db5 0), (16, .slice A215 4 c216), (17, .slice A219 rs208.length c220), (120, .bool true)] ?_
  refine gl_dn rfl ?_
  refine sw_true rfl rfl ?_
  refine sw_sr ?_
  refine glo 1 [(10, .bool true)] ?_
  refine gl_dn rfl ?_
  refine sw_ret ?_
  refine thR ?_
  refine ret1 rfl rfl  ?_
  exact ⟨rfl, (hH.sublist sln).fresh⟩
 try simp only [beq_eq_false_iff_ne, ne_eq] at hg18
 refine glo 1 [(4, .slice Ak ks.length ck), (6, Pp b1 0), (12, Pp db5 0), (16, .slice A215 4 c216), (17, .slice A219 rs208.length c220), (116, .bool false), (117, errV R.2.2)] ?_
 refine gl_st (st_call rfl rfl rfl (by kernel_rfl) rfl (Code_ct R.2.2 _ (hH.zin _ _ hG)) ?_)
 rintro _ w234 ⟨rfl, hF235⟩
 replace hH := hH.call hF235; clear hF235
 refine glo 2 [(4, .slice Ak ks.length ck), (6, Pp b1 0), (12, Pp db5 0), (16, .slice A215 4 c216), (17, .slice A219 rs208.length c220), (120, .bool (((R.2.2 : Nat) : Int) != (80 : Int)))] ?_
 refine gl_dn rfl ?_
 refine sw_cond rfl rfl (fun hc20 => ?_) (fun hc20 => ?_)
 ·
  try simp only [bne_iff_ne, ne_eq] at hc20
  refine sw_sr ?_
  refine glo 1 [(10, .bool true)] ?_
  refine gl_dn rfl ?_
  refine sw_ret ?_
  refine thR ?_
  refine ret1 rfl rfl  ?_
  exact ⟨rfl, (hH.sublist sln).fresh⟩
 try simp only [bne_eq_false_iff_eq] at hc20
 refine sw_skip ?_
 refine sw_next ?_
 have h80 : R.2.2 = 80 := by omega
 obtain ⟨c9, hpall, hxn0, hxm0, hGR, hNR, hks⟩ := torn_I (D := D) (D2 := armD D A9 part) hI (by omega) rfl hI.off hxn hxm (fun e he => by obtain ⟨q, hq, rfl⟩ := List.mem_map.1 he; exact hxok q hq) (by omega) hsv h80
 obtain ⟨D4, l4, hop, hI4, hG3, hN3, hps3, hor⟩ := hks ks
 refine sw_sr ?_
 refine glo 2 [(6, Pp b1 0), (12, Pp db5 0), (16, .slice A215 4 c216), (17, .slice A219 rs208.length c220), (121, Pp db5 0), (122, .slice Ak ks.length ck)] ?_
 replace hH : Hp w w234 _ _ ([_] ++ [_, _, _, _, _, _]) := hH.fr7
 refine gl_st (st_call rfl rfl rfl (by kernel_rfl) rfl (Start_ct db5 mb6 ab223 R.1 pe229 _ ks _ _ hH.mine (hk.mono hH.zoff) hR230 hGR (by omega) (by omega)) ?_)
 rintro _ w238 ⟨pe236, rfl, hR237, hF239⟩
 replace hH := hH.turns hF239; clear hF239
 replace hH : Hp w w238 _ _ [_, _, _, _, _, _, _] := hH
 refine gl_dn rfl ?_
 refine sw_sr ?_
 refine glo 1 [(6, Pp b1 0), (16, .slice A215 4 c216), (17, .slice A219 rs208.length c220), (125, Pp db5 0)] ?_
 replace hH : Hp w w238 _ _ ([_] ++ [_, _, _, _, _, _]) := hH.fr7
 refine gl_st (st_call rfl rfl rfl (by kernel_rfl) rfl ((WOpen_ct db5 mb6 ab223 (startD R.1 ks) pe236 _ _ hH.mine hR237 (fun a p e => by cases e) hG3 (by omega) (by omega) (fun ps h => (hps3 ps h).1) (fun ps h p hp => .inl (by have := (hps3 ps h).2 p hp; omega)) (.inl (by omega))).mono fun v w' h => open_out hop hI4.bad h) ?_)
 rintro _ w247 ⟨g240, es241, ve242, pl243, pe244, rfl, ⟨hL245, hR246⟩, hF248⟩
 replace hH := hH.turns hF248; clear hF248
 replace hH : Hp w w247 _ _ [_, _, _, _, _, _, _, _, _] := hH
 replace hH : Hp w w247 _ _ [_, _, _, _, _, _, _, _, _] := hH
 refine glo 5 [(6, Pp b1 0), (16, .slice A215 4 c216), (17, .slice A219 rs208.length c220), (19, Pp g240 0), (20, .nilIface)] ?_
 refine gl_dn rfl ?_
 refine sw_seq ?_
 refine sw_sr ?_
 refine glo 6 [(6, Pp b1 0), (16, .slice A215 4 c216), (17, .slice A219 rs208.length c220), (19, Pp g240 0), (134, .bool false)] ?_
 refine gl_dn rfl ?_
 refine sw_false rfl rfl ?_
 refine sw_skip ?_
 refine sw_next ?_
 refine sw_sr ?_
 refine glo 1 [(6, Pp b1 0), (16, .slice A215 4 c216), (17, .slice A219 rs208.length c220), (136, Pp g240 0)] ?_
 refine gl_st (st_call rfl rfl rfl (by kernel_rfl) rfl (What_ct g240 l4.c _ es241 _ (hH.blk_cell 6 rfl rfl) (hH.blk_cell 6 rfl rfl) (hH.blk_cell 6 rfl rfl) (hH.blk_cell 6 rfl rfl) (hH.blk_cell 6 rfl rfl) (hL245.row.mono (pz_le hH 7 rfl)) (fun q hq => (hL245.ok q hq).1.d.mono (pz_le hH 7 rfl)) (fun q hq => (hL245.ok q hq).2) (by have h9 := hL245.len; have h8 := hI4.cnt; omega)) ?_)
 rintro _ w256 ⟨v249, v250, rs251, rfl, hrs252, hF257⟩
 replace hH := hH.call hF257; clear hF257
 rw [hL245.fst] at hrs252
 obtain ⟨A258, c259, rfl, hl260, hm261⟩ := hH.row_form 9 rfl
 obtain ⟨A262, c263, rfl, hl264, hm265⟩ := hH.row_form 10 rfl
 replace hH : Hp w w256 _ _ [_, _, _, _, _, _, _, _, _, _, _, _] := hH
 refine glo 5 [(6, Pp b1 0), (16, .slice A215 4 c216), (17, .slice A219 rs208.length c220), (21, .slice A258 4 c259), (22, .slice A262 rs251.length c263)] ?_
 refine gl_dn rfl ?_
 refine sw_sr ?_
 refine glo 4 [(6, Pp b1 0), (16, .slice A215 4 c216), (17, .slice A219 rs208.length c220), (21, .slice A258 4 c259), (22, .slice A262 rs251.length c263), (140, .slice A215 4 c216), (141, .slice A219 rs208.length c220), (142, .slice A258 4 c259), (143, .slice A262 rs251.length c263)] ?_
 refine gl_st (st_call rfl rfl rfl (by kernel_rfl) rfl (Alike_ct _ _ _ _ ((l.c.term : Nat) : Int) ((l.c.vote : Nat) : Int) ((l.c.ix : Nat) : Int) ((l.c.ah : Nat) : Int) ((l4.c.term : Nat) : Int) ((l4.c.vote : Nat) : Int) ((l4.c.ix : Nat) : Int) ((l4.c.ah : Nat) : Int) (eiN rs208) (eiN rs251) _ (hH.row_reads 1 rfl) (row_rs (hH.row_reads 2 rfl)) (hH.row_reads 9 rfl) (row_rs (hH.row_reads 10 rfl)) (eiN_rb (enRows_rb hH 3 rfl)) (eiN_rb (enRows_rb hH 11 rfl))) ?_)
 rintro _ w268 ⟨b266, rfl, hb267, hF269⟩
 replace hH := hH.call hF269; clear hF269
 replace hH : Hp w w268 _ _ [_, _, _, _, _, _, _, _, _, _, _, _] := hH
 refine glo 1 [(6, Pp b1 0), (16, .slice A215 4 c216), (17, .slice A219 rs208.length c220), (21, .slice A258 4 c259), (22, .slice A262 rs251.length c263), (23, .bool b266)] ?_
 refine gl_dn rfl ?_
 refine sw_seq ?_
 refine sw_sr ?_
 refine glo 1 [(6, Pp b1 0), (16, .slice A215 4 c216), (17, .slice A219 rs208.length c220), (21, .slice A258 4 c259), (22, .slice A262 rs251.length c263), (145, .bool b266)] ?_
 refine gl_dn rfl ?_
 refine sw_cond rfl rfl (fun hc22 => ?_) (fun hc22 => ?_)
 ·
  refine sw_sr ?_
  refine glo 1 [(10, .bool true)] ?_
  refine gl_dn rfl ?_
  refine sw_ret ?_
  refine thR ?_
  refine ret1 rfl rfl  ?_
  exact ⟨rfl, (hH.sublist sln).fresh⟩
 have hor2 := hor.resolve_left (fun h9 => by have h8 := hb267.2 ⟨⟨by rw [h9], by rw [h9], by rw [h9], by rw [h9]⟩, by rw [eiN_fst, eiN_fst, hrs209, hrs252, h9]⟩; rw [hc22] at h8; cases h8)
 obtain ⟨J, cJ, hJ1, hJ2, hJ3⟩ := hor2
 rw [List.length_map] at hJ1
 have hn1 : ((l4.c.term : Nat) : Int) = xn := by rw [hJ3]; simp only; omega
 have hn2 : ((l4.c.vote : Nat) : Int) = xm := by rw [hJ3]; simp only; omega
 have hn3 : l4.c.ix = l.c.ix := by rw [hJ3]; exact (putsA_len hJ2).1
 have hn4 : l4.c.ah = l.c.ah := by rw [hJ3]; exact (putsA_len hJ2).2.1
 have hn5 : l4.c.es = cJ.es := by rw [hJ3]
 refine sw_skip ?_
 refine sw_next ?_
 refine sw_sr ?_
 refine glo 2 [(6, Pp b1 0), (16, .slice A215 4 c216), (17, .slice A219 rs208.length c220), (21, .slice A258 4 c259), (22, .slice A262 rs251.length c263), (146, .slice A215 4 c216), (147, Pp b1 1)] ?_
 refine gl_q rfl rfl rfl (rd_loadK 0 (by kernel_rfl) hH rfl rfl rfl) ?_
 obtain ⟨b271, hb270, hi272⟩ := hH.row_idx 1 rfl 0 (by omega)
 refine gl_q rfl rfl rfl (rd_idx (e := 3) (m := 1) (by kernel_rfl) (by kernel_rfl) rfl rfl hi272) ?_
 refine gl_st (st_storeO (u := .int .i64 xn) 1 rfl rfl rfl hH rfl rfl rfl (by kernel_rfl) rfl hb270 (by simp [bv_length] <;> omega) ?_)
 clear hH; intro w273 hH
 replace hH := hH.row_eq 1 (l' := 4) (xs' := [.int .i64 xn, .int .i64 ((l.c.vote : Nat) : Int), .int .i64 ((l.c.ix : Nat) : Int), .int .i64 ((l.c.ah : Nat) : Int)]) rfl (rfl) (rfl)
 replace hH : Hp w w273 _ _ [_, _, _, _, _, _, _, _, _, _, _, _] := hH
 refine gl_dn rfl ?_
 refine sw_sr ?_
 refine glo 2 [(6, Pp b1 0), (16, .slice A215 4 c216), (17, .slice A219 rs208.length c220), (21, .slice A258 4 c259), (22, .slice A262 rs251.length c263), (150, .slice A215 4 c216), (151, Pp b1 2)] ?_
 refine gl_q rfl rfl rfl (rd_loadK 0 (by kernel_rfl) hH rfl rfl rfl) ?_
 obtain ⟨b275, hb274, hi276⟩ := hH.row_idx 1 rfl 1 (by omega)
 refine gl_q rfl rfl rfl (rd_idx (e := 3) (m := 1) (by kernel_rfl) (by kernel_rfl) rfl rfl hi276) ?_
 refine gl_st (st_storeO (u := .int .i64 xm) 1 rfl rfl rfl hH rfl rfl rfl (by kernel_rfl) rfl hb274 (by simp [bv_length] <;> omega) ?_)
 clear hH; intro w277 hH
 replace hH := hH.row_eq 1 (l' := 4) (xs' := [.int .i64 xn, .int .i64 xm, .int .i64 ((l.c.ix : Nat) : Int), .int .i64 ((l.c.ah : Nat) : Int)]) rfl (rfl) (rfl)
 replace hH : Hp w w277 _ _ [_, _, _, _, _, _, _, _, _, _, _, _] := hH
 refine gl_dn rfl ?_
 refine sw_seq ?_
 refine sw_sr ?_
 refine glo 1 [(6, Pp b1 0), (16, .slice A215 4 c216), (17, .slice A219 rs208.length c220), (21, .slice A258 4 c259), (22, .slice A262 rs251.length c263), (24, .int .i64 0)] ?_
 refine gl_dn rfl ?_
 refine sw_block ?_
 replace hH := hH.fr12.fr12.fr12.fr5.fr7.fr7
 replace hH : Hp w w277 _ _ [_, _, _, _, _, _, _] := (hH.sublist (slk (slk (slk (slk (slk (slk (slk sln))))))))
 refine sw_loop (γ := Nat × Cn × EQ × Option Addr × Nat) (fun (j, cj, K, AK, cK) => [(6, Pp b1 0), (16, .slice A215 4 c216), (17, .slice AK K.length cK), (21, .slice A258 4 c259), (22, .slice A262 rs251.length c263), (24, Ni j)]) (fun (j, cj, K, AK, cK) w_ => (putsA l.c ((xL.map (·.1)).take j) = some cj) ∧ (K.map (·.1) = cj.es) ∧ (∀ q ∈ K, q ∈ rs208 ∨ ∃ x ∈ xL, q = (x.1.en, x.2)) ∧ (j ≤ J) ∧ Hp w w_ (w.cell?) [] [.row (.slice AK K.length cK) 64 4 K.length (rowC enC K), enRows rs208, .row (.slice A215 4 c216) 3 1 4 [.int .i64 xn, .int .i64 xm, .int .i64 ((l.c.ix : Nat) : Int), .int .i64 ((l.c.ah : Nat) : Int)], .row (.slice A258 4 c259) 3 1 4 [.int .i64 ((l4.c.term : Nat) : Int), .int .i64 ((l4.c.vote : Nat) : Int), .int .i64 ((l4.c.ix : Nat) : Int), .int .i64 ((l4.c.ah : Nat) : Int)], .row (.slice A262 rs251.length c263) 64 4 rs251.length (rowC enC rs251), enRows rs251, .blk b1 47 [.int .i64 xd, .int .i64 xn, .int .i64 xm, .slice Ax xL.length cx, xk, .string (bs xs), xb]]) (fun (j, cj, K, AK, cK) => xL.length - j) (0, l.c, rs208, A219, c220) (Sub.of_eq (by kernel_rfl)) ?_ ?_
 · exact ⟨rfl, hrs209, fun q hq => .inl hq, by omega, hH⟩
 clear hH
 rintro ⟨j, cj, K, AK, cK⟩ w278 ⟨hcj, hKf, hKm, hjJ0, hH⟩
 have hKl : K.length = cj.es.length := by rw [← hKf, List.length_map]
 obtain ⟨_, _, e9, hc8, hc9⟩ := hH.row_form 0 rfl
 cases e9
 have hcl := (putsA_len hcj).2.2
 rw [List.length_take, List.length_map] at hcl
 have hcnt := hI.cnt
 refine swk [(6, Pp b1 0), (16, .slice A215 4 c216), (17, .slice AK K.length cK), (21, .slice A258 4 c259), (22, .slice A262 rs251.length c263), (24, Ni j)] ?_
 refine sw_seq ?_
 refine sw_sr ?_
 refine glo 2 [(6, Pp b1 0), (16, .slice A215 4 c216), (17, .slice AK K.length cK), (21, .slice A258 4 c259), (22, .slice A262 rs251.length c263), (24, Ni j), (154, Ni j), (155, Pp b1 3)] ?_
 refine gl_q rfl rfl rfl (rd_loadK 6 (by kernel_rfl) hH rfl rfl rfl) ?_
 refine gl_q rfl rfl rfl (rd_len (e := 64) (by kernel_rfl) rfl) ?_
 refine glo 1 [(6, Pp b1 0), (16, .slice A215 4 c216), (17, .slice AK K.length cK), (21, .slice A258 4 c259), (22, .slice A262 rs251.length c263), (24, Ni j), (158, .bool (decide (((j : Nat) : Int) ≤ ((xL.length : Nat) : Int))))] ?_
 refine gl_dn rfl ?_
 refine sw_cond rfl rfl (fun hc23 => ?_) (fun hc23 => ?_)
 rotate_left
 · exact absurd hc23 (by simp only [decide_eq_false_iff_not, beq_eq_false_iff_ne, bne_eq_false_iff_eq, ne_eq, Decidable.not_not, Int.not_lt, Int.not_le]; omega)
 clear hc23
 refine sw_skip ?_
 refine sw_next ?_
 refine sw_seq ?_
 refine sw_block ?_
 refine sw_sr ?_
 refine glo 4 [(6, Pp b1 0), (16, .slice A215 4 c216), (17, .slice AK K.length cK), (21, .slice A258 4 c259), (22, .slice A262 rs251.length c263), (24, Ni j), (161, .slice A215 4 c216), (162, .slice AK K.length cK), (163, .slice A258 4 c259), (164, .slice A262 rs251.length c263)] ?_
 refine gl_st (st_call rfl rfl rfl (by kernel_rfl) rfl (Alike_ct _ _ _ _ xn xm ((l.c.ix : Nat) : Int) ((l.c.ah : Nat) : Int) ((l4.c.term : Nat) : Int) ((l4.c.vote : Nat) : Int) ((l4.c.ix : Nat) : Int) ((l4.c.ah : Nat) : Int) (eiN K) (eiN rs251) _ (hH.row_reads 2 rfl) (row_rs (hH.row_reads 0 rfl)) (hH.row_reads 3 rfl) (row_rs (hH.row_reads 4 rfl)) (eiN_rb fun q hq => (hKm q hq).elim (fun h => enRows_rb hH 1 rfl q h) (fun ⟨x, hx, h⟩ => by rw [h]; exact (hxq x hx).mono hH.zin)) (eiN_rb (enRows_rb hH 5 rfl))) ?_)
 rintro _ w281 ⟨b279, rfl, hb280, hF282⟩
 replace hH := hH.call hF282; clear hF282
 refine glo 1 [(6, Pp b1 0), (16, .slice A215 4 c216), (17, .slice AK K.length cK), (21, .slice A258 4 c259), (22, .slice A262 rs251.length c263), (23, .bool b279), (24, Ni j)] ?_
 refine gl_dn rfl ?_
 refine sw_seq ?_
 refine sw_sr ?_
 refine glo 1 [(6, Pp b1 0), (16, .slice A215 4 c216), (17, .slice AK K.length cK), (21, .slice A258 4 c259), (22, .slice A262 rs251.length c263), (24, Ni j), (166, .bool b279)] ?_
 refine gl_dn rfl ?_
 refine sw_cond rfl rfl (fun hc24 => ?_) (fun hc24 => ?_)
 ·
  refine sw_sr ?_
  refine glo 1 [(10, .bool true)] ?_
  refine gl_dn rfl ?_
  refine sw_ret ?_
  refine thR ?_
  refine bkR ?_
  refine thR ?_
  refine thR ?_
  refine bkR ?_
  refine thR ?_
  refine ret1 rfl rfl  ?_
  exact ⟨rfl, (hH.sublist sln).fresh⟩
 have hjJ : j ≠ J := fun h9 => by subst h9; have h8 := hb280.2 ⟨⟨hn1.symm, hn2.symm, by rw [hn3], by rw [hn4]⟩, by rw [eiN_fst, eiN_fst, hKf, hrs252, hn5, Option.some.inj (hcj.symm.trans hJ2)]⟩; rw [hc24] at h8; cases h8
 have hlt : j < J := by omega
 refine sw_skip ?_
 refine sw_next ?_
 refine sw_sr ?_
 refine glo 2 [(6, Pp b1 0), (16, .slice A215 4 c216), (17, .slice AK K.length cK), (21, .slice A258 4 c259), (22, .slice A262 rs251.length c263), (24, Ni j), (167, Ni j), (168, Pp b1 3)] ?_
 refine gl_q rfl rfl rfl (rd_loadK 6 (by kernel_rfl) hH rfl rfl rfl) ?_
 refine gl_q rfl rfl rfl (rd_len (e := 64) (by kernel_rfl) rfl) ?_
 refine glo 1 [(6, Pp b1 0), (16, .slice A215 4 c216), (17, .slice AK K.length cK), (21, .slice A258 4 c259), (22, .slice A262 rs251.length c263), (24, Ni j), (171, .bool (decide (((j : Nat) : Int) < ((xL.length : Nat) : Int))))] ?_
 refine gl_dn rfl ?_
 refine sw_cond rfl rfl (fun hc25 => ?_) (fun hc25 => ?_)
 rotate_left
 · exact absurd hc25 (by simp only [decide_eq_false_iff_not, beq_eq_false_iff_ne, bne_eq_false_iff_eq, ne_eq, Decidable.not_not, Int.not_lt, Int.not_le]; omega)
 clear hc25
 refine sw_seq ?_
 obtain ⟨⟨⟨ix, tm, kd, dq⟩, vq⟩, hq⟩ : ∃ x, xL[j]? = some x := ⟨_, List.getElem?_eq_getElem (by omega)⟩
 have kq : RB w.cell? vq dq := hxq _ (List.mem_of_getElem? hq)
 obtain ⟨Ad, cd, rfl, _, _⟩ := kq.row.form
 have hq1 : (xL.map (·.1))[j]? = some ⟨ix, tm, kd, dq⟩ := by rw [List.getElem?_map, hq]; rfl
 obtain ⟨ho1, ho2, ho3⟩ := hxok _ (List.mem_of_getElem? hq)
 obtain ⟨p1, p2, p3, p4, p5, p6, hnext⟩ := puts_step hpall hcj hq1
 simp only at ho1 ho2 ho3 p1 p2 p5 p6 hnext
 obtain ⟨P, hP⟩ : ∃ P, ix.toNat - l.c.ix - 1 = P := ⟨_, rfl⟩
 rw [hP] at hnext
 refine sw_draw (by kernel_rfl) (fun w_ => Hp w w_ (w.cell?) [] [.row (.slice AK K.length cK) 64 4 K.length (rowC enC K), enRows rs208, .row (.slice A215 4 c216) 3 1 4 [.int .i64 xn, .int .i64 xm, .int .i64 ((l.c.ix : Nat) : Int), .int .i64 ((l.c.ah : Nat) : Int)], .row (.slice A258 4 c259) 3 1 4 [.int .i64 ((l4.c.term : Nat) : Int), .int .i64 ((l4.c.vote : Nat) : Int), .int .i64 ((l4.c.ix : Nat) : Int), .int .i64 ((l4.c.ah : Nat) : Int)], .row (.slice A262 rs251.length c263) 64 4 rs251.length (rowC enC rs251), enRows rs251, .blk b1 47 [.int .i64 xd, .int .i64 xn, .int .i64 xm, .slice Ax xL.length cx, xk, .string (bs xs), xb]]) ?_
 replace hH := hH.drew
 generalize { w281 with drawn := w281.drawn + 1 } = w283 at hH ⊢
 have hS9 := hH.sublist (slk (slk (slk (slk (slk (slk (slk sln)))))))
 refine gdo 1 [0] [(6, Pp b1 0), (16, .slice A215 4 c216), (17, .slice AK K.length cK), (21, .slice A258 4 c259), (22, .slice A262 rs251.length c263), (24, Ni j), (172, Pp b1 3)] hS9 (PQ.th (PQ.bk (PQ.th (PQ.th (PQ.bk (PQ.th PQ.body)))))) ?_
 refine gdq 1 rfl (fun w_ hS => (rd_loadK 6 (by kernel_rfl) hS rfl rfl rfl)) hS9 (PQ.th (PQ.bk (PQ.th (PQ.th (PQ.bk (PQ.th PQ.body)))))) ?_
 obtain ⟨p284, hi286, hp285⟩ := hxR.idx j (by omega) (by decide)
 refine gdo 1 [2] [(6, Pp b1 0), (16, .slice A215 4 c216), (17, .slice AK K.length cK), (21, .slice A258 4 c259), (22, .slice A262 rs251.length c263), (24, Ni j), (173, .slice Ax xL.length cx), (174, Ni j)] hS9 (PQ.th (PQ.bk (PQ.th (PQ.th (PQ.bk (PQ.th PQ.body)))))) ?_
 refine gdq 3 rfl (fun w_ hS => (rd_idx (e := 64) (m := 4) (by kernel_rfl) (by kernel_rfl) rfl rfl hi286)) hS9 (PQ.th (PQ.bk (PQ.th (PQ.th (PQ.bk (PQ.th PQ.body)))))) ?_
 refine gdo 1 [4] [(6, Pp b1 0), (16, .slice A215 4 c216), (17, .slice AK K.length cK), (21, .slice A258 4 c259), (22, .slice A262 rs251.length c263), (24, Ni j), (176, .pointer (some p284))] hS9 (PQ.th (PQ.bk (PQ.th (PQ.th (PQ.bk (PQ.th PQ.body)))))) ?_
 refine gdq 5 rfl (fun w_ hS => (rd_load (by kernel_rfl) rfl (hS.zin _ _ (hp285 0 _ (by decide) (rowC_at eiC_len hq 0 (by decide) rfl))))) hS9 (PQ.th (PQ.bk (PQ.th (PQ.th (PQ.bk (PQ.th PQ.body)))))) ?_
 obtain ⟨b288, hb287, hi289⟩ := hH.row_idx 2 rfl 2 (by omega)
 refine gdo 1 [6] [(6, Pp b1 0), (16, .slice A215 4 c216), (17, .slice AK K.length cK), (21, .slice A258 4 c259), (22, .slice A262 rs251.length c263), (24, Ni j), (177, .int .i64 ix), (178, .slice A215 4 c216)] hS9 (PQ.th (PQ.bk (PQ.th (PQ.th (PQ.bk (PQ.th PQ.body)))))) ?_
 refine gdq 7 rfl (fun w_ hS => (rd_idx (e := 3) (m := 1) (by kernel_rfl) (by kernel_rfl) rfl rfl hi289)) hS9 (PQ.th (PQ.bk (PQ.th (PQ.th (PQ.bk (PQ.th PQ.body)))))) ?_
 refine gdq 8 rfl (fun w_ hS => (rd_loadO 2 (by kernel_rfl) hS rfl rfl hb287 rfl)) hS9 (PQ.th (PQ.bk (PQ.th (PQ.th (PQ.bk (PQ.th PQ.body)))))) ?_
 refine gdo 1 [9] [(6, Pp b1 0), (16, .slice A215 4 c216), (17, .slice AK K.length cK), (21, .slice A258 4 c259), (22, .slice A262 rs251.length c263), (24, Ni j), (177, .int .i64 ix), (180, .int .i64 ((l.c.ix : Nat) : Int)), (181, .int .i64 (IntKind.i64.wrap (ix - ((l.c.ix : Nat) : Int))))] hS9 (PQ.th (PQ.bk (PQ.th (PQ.th (PQ.bk (PQ.th PQ.body)))))) ?_
 refine gd_cv 181 (.int .i64 (ix - ((l.c.ix : Nat) : Int))) (cv_i64 (by omega)) rfl ?_
 refine gdo 1 [10] [(6, Pp b1 0), (16, .slice A215 4 c216), (17, .slice AK K.length cK), (21, .slice A258 4 c259), (22, .slice A262 rs251.length c263), (24, Ni j), (181, .int .i64 (ix - ((l.c.ix : Nat) : Int))), (182, .int .i64 (IntKind.i64.wrap ((ix - ((l.c.ix : Nat) : Int)) - 1)))] hS9 (PQ.th (PQ.bk (PQ.th (PQ.th (PQ.bk (PQ.th PQ.body)))))) ?_
 refine gd_cv 182 (Ni P) (cv_i64 (by omega)) rfl ?_
 refine gdo 1 [11] [(6, Pp b1 0), (16, .slice A215 4 c216), (17, .slice AK K.length cK), (21, .slice A258 4 c259), (22, .slice A262 rs251.length c263), (24, Ni j), (25, Ni P)] hS9 (PQ.th (PQ.bk (PQ.th (PQ.th (PQ.bk (PQ.th PQ.body)))))) ?_
 refine gdn [(6, Pp b1 0), (16, .slice A215 4 c216), (17, .slice AK K.length cK), (21, .slice A258 4 c259), (22, .slice A262 rs251.length c263), (24, Ni j), (25, Ni P)] ?_
 refine sw_next ?_
 refine sw_seq ?_
 refine sw_sr ?_
 refine glo 3 [(6, Pp b1 0), (16, .slice A215 4 c216), (17, .slice AK K.length cK), (21, .slice A258 4 c259), (22, .slice A262 rs251.length c263), (24, Ni j), (25, Ni P), (185, .bool (decide (((P : Nat) : Int) < (0 : Int))))] ?_
 refine gl_split 185 (b := decide (((P : Nat) : Int) < (0 : Int))) rfl (fun hg26 => ?_) (fun hg26 => ?_)
 ·
  try simp only [decide_eq_true_eq] at hg26
  exfalso; omega
 try simp only [decide_eq_false_iff_not, Int.not_lt, Int.not_le] at hg26
 refine glo 2 [(6, Pp b1 0), (16, .slice A215 4 c216), (17, .slice AK K.length cK), (21, .slice A258 4 c259), (22, .slice A262 rs251.length c263), (24, Ni j), (25, Ni P), (185, .bool false), (186, Ni P), (187, .slice AK K.length cK)] ?_
 refine gl_q rfl rfl rfl (rd_len (e := 64) (by kernel_rfl) rfl) ?_
 refine glo 2 [(6, Pp b1 0), (16, .slice A215 4 c216), (17, .slice AK K.length cK), (21, .slice A258 4 c259), (22, .slice A262 rs251.length c263), (24, Ni j), (25, Ni P), (190, .bool (decide (((P : Nat) : Int) > ((K.length : Nat) : Int))))] ?_
 refine gl_dn rfl ?_
 refine sw_cond rfl rfl (fun hc27 => ?_) (fun hc27 => ?_)
 · exact absurd hc27 (by simp only [decide_eq_true_eq, beq_iff_eq, bne_iff_ne, ne_eq]; omega)
 clear hc27
 refine sw_skip ?_
 refine sw_next ?_
 refine sw_draw (by kernel_rfl) (fun w_ => Hp w w_ (w.cell?) [] [.row (.slice AK K.length cK) 64 4 K.length (rowC enC K), enRows rs208, .row (.slice A215 4 c216) 3 1 4 [.int .i64 xn, .int .i64 xm, .int .i64 ((l.c.ix : Nat) : Int), .int .i64 ((l.c.ah : Nat) : Int)], .row (.slice A258 4 c259) 3 1 4 [.int .i64 ((l4.c.term : Nat) : Int), .int .i64 ((l4.c.vote : Nat) : Int), .int .i64 ((l4.c.ix : Nat) : Int), .int .i64 ((l4.c.ah : Nat) : Int)], .row (.slice A262 rs251.length c263) 64 4 rs251.length (rowC enC rs251), enRows rs251, .blk b1 47 [.int .i64 xd, .int .i64 xn, .int .i64 xm, .slice Ax xL.length cx, xk, .string (bs xs), xb]]) ?_
 replace hH := hH.drew
 generalize { w283 with drawn := w283.drawn + 1 } = w290 at hH ⊢
 have hS9 := hH.sublist (slk (slk (slk (slk (slk (slk (slk sln)))))))
 obtain ⟨A291, hk292, hv293⟩ := hH.row_win 0 rfl 0 P cK (by omega) (by omega) (by omega) (by omega)
 refine gdo 2 [1,2] [(6, Pp b1 0), (16, .slice A215 4 c216), (17, .slice AK K.length cK), (21, .slice A258 4 c259), (22, .slice A262 rs251.length c263), (24, Ni j), (192, .slice AK K.length cK), (193, Ni P)] hS9 (PQ.bk (PQ.th (PQ.th (PQ.bk (PQ.th PQ.body))))) ?_
 refine gdq 3 rfl (fun w_ hS => (rd_cut (e := 64) (m := 4) (by kernel_rfl) (by kernel_rfl) rfl (.inl ⟨rfl, rfl⟩) (.inr ⟨_, _, rfl, rfl⟩) hk292)) hS9 (PQ.bk (PQ.th (PQ.th (PQ.bk (PQ.th PQ.body))))) ?_
 refine gdo 1 [5] [(6, Pp b1 0), (16, .slice A215 4 c216), (17, .slice AK K.length cK), (21, .slice A258 4 c259), (22, .slice A262 rs251.length c263), (24, Ni j), (194, .slice A291 (P - 0) (cK - 0)), (196, Pp b1 3)] hS9 (PQ.bk (PQ.th (PQ.th (PQ.bk (PQ.th PQ.body))))) ?_
 refine gdq 6 rfl (fun w_ hS => (rd_loadK 6 (by kernel_rfl) hS rfl rfl rfl)) hS9 (PQ.bk (PQ.th (PQ.th (PQ.bk (PQ.th PQ.body))))) ?_
 obtain ⟨p294, hi296, hp295⟩ := hxR.idx j (by omega) (by decide)
 refine gdo 1 [7] [(6, Pp b1 0), (16, .slice A215 4 c216), (17, .slice AK K.length cK), (21, .slice A258 4 c259), (22, .slice A262 rs251.length c263), (24, Ni j), (194, .slice A291 (P - 0) (cK - 0)), (197, .slice Ax xL.length cx), (198, Ni j)] hS9 (PQ.bk (PQ.th (PQ.th (PQ.bk (PQ.th PQ.body))))) ?_
 refine gdq 8 rfl (fun w_ hS => (rd_idx (e := 64) (m := 4) (by kernel_rfl) (by kernel_rfl) rfl rfl hi296)) hS9 (PQ.bk (PQ.th (PQ.th (PQ.bk (PQ.th PQ.body))))) ?_
 refine gdq 9 rfl (fun w_ hS => (rd_loadZA (by kernel_rfl) hS hp295 rfl 0 rfl [.int .i64 ix, .int .i64 tm, .int .i64 kd, .slice Ad dq.length cd] (by kernel_rfl) (rowC_all eiC_len hq 0 _ rfl))) hS9 (PQ.bk (PQ.th (PQ.th (PQ.bk (PQ.th PQ.body))))) ?_
 refine gd_st2 0 10 (by kernel_rfl) ?_ ?_
 ·
  refine st_buildS0 (e := 64) (m := 4) rfl rfl rfl (by kernel_rfl) (by kernel_rfl) hH ?_
  clear hH; intro b297 w298 hH
  replace hS9 := hH.sublist (slk (slk (slk (slk (slk (slk (slk sln)))))))
  refine ⟨hS9, ?_⟩
  refine gdk [(6, Pp b1 0), (16, .slice A215 4 c216), (17, .slice AK K.length cK), (21, .slice A258 4 c259), (22, .slice A262 rs251.length c263), (24, Ni j), (191, .slice (some ⟨b297, 0, none⟩) 0 0), (194, .slice A291 (P - 0) (cK - 0)), (200, .agg #[.int .i64 ix, .int .i64 tm, .int .i64 kd, .slice Ad dq.length cd])] ?_
  refine gd_st2 4 10 (by kernel_rfl) ?_ ?_
  ·
   have hKv : EnV (K.take P) := fun q hq => (enV_rb (c := w298.cell?) (fun q hq => (hKm q hq).elim (fun h => enRows_rb hH 1 rfl q h) (fun ⟨x, hx, h⟩ => by rw [h]; exact (hxq x hx).mono hH.zin))) q (List.mem_of_mem_take hq)
   have hPl : (K.take P).length = P := by rw [List.length_take]; omega
   refine st_appH (e := 64) (zv := .agg #[.int .i64 0, .int .i64 0, .int .i64 0, .slice none 0 0]) (m := 4) (bytes := 48) 7 rfl rfl rfl (by kernel_rfl) (by kernel_rfl) rfl (by decide) hH rfl rfl rfl (Win.reads hH 0 rfl hv293 (by omega) (by omega) (by omega)) (by intro u hu; rw [Nat.zero_mul, List.drop_zero, Nat.sub_zero, rowC_take enC_len] at hu; exact en_one hKv u hu) (by unfold maxLen; omega) (by omega) ?_
   clear hH; intro v299 w300 hH
   replace hH := hH.row_eq 7 (l' := (K.take P).length) (xs' := rowC enC (K.take P)) rfl (by omega) (by rw [List.nil_append, Nat.zero_mul, List.drop_zero, Nat.sub_zero, rowC_take enC_len])
   obtain ⟨A301, c302, rfl, hl303, hm304⟩ := hH.row_form 7 rfl
   replace hS9 := hH.sublist (slk (slk (slk (slk (slk (slk (slk sln)))))))
   refine ⟨hS9, ?_⟩
   refine gdk [(6, Pp b1 0), (16, .slice A215 4 c216), (17, .slice AK K.length cK), (21, .slice A258 4 c259), (22, .slice A262 rs251.length c263), (24, Ni j), (195, .slice A301 ((K.take P).length) c302), (200, .agg #[.int .i64 ix, .int .i64 tm, .int .i64 kd, .slice Ad dq.length cd])] ?_
   refine gds 10 (st_buildS (e := 64) (zv := .agg #[.int .i64 0, .int .i64 0, .int .i64 0, .slice none 0 0]) (m := 4) (bytes := 48) rfl rfl rfl (by kernel_rfl) (by kernel_rfl) rfl (cs := [.int .i64 ix, .int .i64 tm, .int .i64 kd, .slice Ad dq.length cd]) (by kernel_rfl) rfl hH ?_)
   clear hH; intro b305 w306 hH
   replace hH : Hp w w306 _ _ [_, _, _, _, _, _, _, _, _] := hH
   replace hS9 := hH.sublist (slk (slk (slk (slk (slk (slk (slk sln)))))))
   refine ⟨hS9, ?_⟩
   refine gds 11 (st_appH (e := 64) (zv := .agg #[.int .i64 0, .int .i64 0, .int .i64 0, .slice none 0 0]) (m := 4) (bytes := 48) 7 rfl rfl rfl (by kernel_rfl) (by kernel_rfl) rfl (by decide) hH rfl rfl rfl (hH.row_reads 8 rfl) (by simp [Value.oneCell']) (by unfold maxLen; omega) (by omega) ?_)
   clear hH; intro v307 w308 hH
   replace hH := hH.row_eq 7 (l' := (K.take P ++ [(EA.en ⟨ix, tm, kd, dq⟩, (.slice Ad dq.length cd : Value))]).length) (xs' := rowC enC (K.take P ++ [(EA.en ⟨ix, tm, kd, dq⟩, (.slice Ad dq.length cd : Value))])) rfl (by rw [List.length_append]; rfl) (rowC_snoc _ _ (en_cells (e := ⟨ix, tm, kd, dq⟩) (by simp only; omega) p1 p2 _))
   obtain ⟨A309, c310, rfl, hl311, hm312⟩ := hH.row_form 7 rfl
   replace hH : Hp w w308 _ _ [_, _, _, _, _, _, _, _, _] := hH
   replace hS9 := hH.sublist (slk (slk (slk (slk (slk (slk (slk sln)))))))
   refine ⟨hS9, ?_⟩
   refine gdo 1 [12] [(6, Pp b1 0), (16, .slice A215 4 c216), (17, .slice A309 ((K.take P ++ [(EA.en ⟨ix, tm, kd, dq⟩, (.slice Ad dq.length cd : Value))]).length) c310), (21, .slice A258 4 c259), (22, .slice A262 rs251.length c263), (24, Ni j)] hS9 (PQ.bk (PQ.th (PQ.th (PQ.bk (PQ.th PQ.body))))) ?_
   refine gdn [(6, Pp b1 0), (16, .slice A215 4 c216), (17, .slice A309 ((K.take P ++ [(EA.en ⟨ix, tm, kd, dq⟩, (.slice Ad dq.length cd : Value))]).length) c310), (21, .slice A258 4 c259), (22, .slice A262 rs251.length c263), (24, Ni j)] ?_
   refine bkN ?_
   refine sw_next ?_
   refine sw_region ?_
   refine glo 2 [(6, Pp b1 0), (16, .slice A215 4 c216), (17, .slice A309 ((K.take P ++ [(EA.en ⟨ix, tm, kd, dq⟩, (.slice Ad dq.length cd : Value))]).length) c310), (21, .slice A258 4 c259), (22, .slice A262 rs251.length c263), (160, .int .i64 (IntKind.i64.wrap (((j : Nat) : Int) + 1)))] ?_
   refine gl_cv 160 (Ni (j + 1)) (cv_i64 (by omega)) rfl ?_
   refine glo 1 [(6, Pp b1 0), (16, .slice A215 4 c216), (17, .slice A309 ((K.take P ++ [(EA.en ⟨ix, tm, kd, dq⟩, (.slice Ad dq.length cd : Value))]).length) c310), (21, .slice A258 4 c259), (22, .slice A262 rs251.length c263), (24, Ni (j + 1))] ?_
   refine gl_done rfl ?_
   refine rnd_end (g := (j, cj, K, AK, cK)) (j + 1, { cj with es := cj.es.take P ++ [EA.en ⟨ix, tm, kd, dq⟩] }, K.take P ++ [(EA.en ⟨ix, tm, kd, dq⟩, .slice Ad dq.length cd)], A309, c310) (by kernel_rfl) ?_ ?_
   replace hH := hH.fr7.fr7.fr7.fr7.fr7.fr7.fr8
   replace hH : Hp w w308 _ _ [_, _, _, _, _, _, _] := (hH.sublist (slk (slk (slk (slk (slk (slk (slk sln))))))))
   · exact ⟨hnext, by rw [List.map_append, List.map_take, hKf]; rfl, fun q9 hq9 => (List.mem_append.1 hq9).elim (fun h => hKm q9 (List.mem_of_mem_take h)) (fun h => .inr ⟨_, List.mem_of_getElem? hq, List.mem_singleton.1 h⟩), by omega, hH⟩
   · show xL.length - (j + 1) < xL.length - j; omega
  ·
   refine st_buildS (e := 64) (zv := .agg #[.int .i64 0, .int .i64 0, .int .i64 0, .slice none 0 0]) (m := 4) (bytes := 48) rfl rfl rfl (by kernel_rfl) (by kernel_rfl) rfl (cs := [.int .i64 ix, .int .i64 tm, .int .i64 kd, .slice Ad dq.length cd]) (by kernel_rfl) rfl hH ?_
   clear hH; intro b313 w314 hH
   replace hH : Hp w w314 _ _ [_, _, _, _, _, _, _, _, _] := hH
   replace hS9 := hH.sublist (slk (slk (slk (slk (slk (slk (slk sln)))))))
   refine ⟨hS9, ?_⟩
   refine gdk [(6, Pp b1 0), (16, .slice A215 4 c216), (17, .slice AK K.length cK), (21, .slice A258 4 c259), (22, .slice A262 rs251.length c263), (24, Ni j), (191, .slice (some ⟨b297, 0, none⟩) 0 0), (194, .slice A291 (P - 0) (cK - 0)), (201, .slice (some ⟨b313, 0, none⟩) 1 1)] ?_
   have hKv : EnV (K.take P) := fun q hq => (enV_rb (c := w314.cell?) (fun q hq => (hKm q hq).elim (fun h => enRows_rb hH 1 rfl q h) (fun ⟨x, hx, h⟩ => by rw [h]; exact (hxq x hx).mono hH.zin))) q (List.mem_of_mem_take hq)
   have hPl : (K.take P).length = P := by rw [List.length_take]; omega
   refine gds 4 (st_appH (e := 64) (zv := .agg #[.int .i64 0, .int .i64 0, .int .i64 0, .slice none 0 0]) (m := 4) (bytes := 48) 7 rfl rfl rfl (by kernel_rfl) (by kernel_rfl) rfl (by decide) hH rfl rfl rfl (Win.reads hH 0 rfl hv293 (by omega) (by omega) (by omega)) (by intro u hu; rw [Nat.zero_mul, List.drop_zero, Nat.sub_zero, rowC_take enC_len] at hu; exact en_one hKv u hu) (by unfold maxLen; omega) (by omega) ?_)
   clear hH; intro v315 w316 hH
   replace hH := hH.row_eq 7 (l' := (K.take P).length) (xs' := rowC enC (K.take P)) rfl (by omega) (by rw [List.nil_append, Nat.zero_mul, List.drop_zero, Nat.sub_zero, rowC_take enC_len])
   obtain ⟨A317, c318, rfl, hl319, hm320⟩ := hH.row_form 7 rfl
   replace hH : Hp w w316 _ _ [_, _, _, _, _, _, _, _, _] := hH
   replace hS9 := hH.sublist (slk (slk (slk (slk (slk (slk (slk sln)))))))
   refine ⟨hS9, ?_⟩
   refine gds 11 (st_appH (e := 64) (zv := .agg #[.int .i64 0, .int .i64 0, .int .i64 0, .slice none 0 0]) (m := 4) (bytes := 48) 7 rfl rfl rfl (by kernel_rfl) (by kernel_rfl) rfl (by decide) hH rfl rfl rfl (hH.row_reads 8 rfl) (by simp [Value.oneCell']) (by unfold maxLen; omega) (by omega) ?_)
   clear hH; intro v321 w322 hH
   replace hH := hH.row_eq 7 (l' := (K.take P ++ [(EA.en ⟨ix, tm, kd, dq⟩, (.slice Ad dq.length cd : Value))]).length) (xs' := rowC enC (K.take P ++ [(EA.en ⟨ix, tm, kd, dq⟩, (.slice Ad dq.length cd : Value))])) rfl (by rw [List.length_append]; rfl) (rowC_snoc _ _ (en_cells (e := ⟨ix, tm, kd, dq⟩) (by simp only; omega) p1 p2 _))
   obtain ⟨A323, c324, rfl, hl325, hm326⟩ := hH.row_form 7 rfl
   replace hH : Hp w w322 _ _ [_, _, _, _, _, _, _, _, _] := hH
   replace hS9 := hH.sublist (slk (slk (slk (slk (slk (slk (slk sln)))))))
   refine ⟨hS9, ?_⟩
   refine gdo 1 [12] [(6, Pp b1 0), (16, .slice A215 4 c216), (17, .slice A323 ((K.take P ++ [(EA.en ⟨ix, tm, kd, dq⟩, (.slice Ad dq.length cd : Value))]).length) c324), (21, .slice A258 4 c259), (22, .slice A262 rs251.length c263), (24, Ni j)] hS9 (PQ.bk (PQ.th (PQ.th (PQ.bk (PQ.th PQ.body))))) ?_
   refine gdn [(6, Pp b1 0), (16, .slice A215 4 c216), (17, .slice A323 ((K.take P ++ [(EA.en ⟨ix, tm, kd, dq⟩, (.slice Ad dq.length cd : Value))]).length) c324), (21, .slice A258 4 c259), (22, .slice A262 rs251.length c263), (24, Ni j)] ?_
   refine bkN ?_
   refine sw_next ?_
   refine sw_region ?_
   refine glo 2 [(6, Pp b1 0), (16, .slice A215 4 c216), (17, .slice A323 ((K.take P ++ [(EA.en ⟨ix, tm, kd, dq⟩, (.slice Ad dq.length cd : Value))]).length) c324), (21, .slice A258 4 c259), (22, .slice A262 rs251.length c263), (160, .int .i64 (IntKind.i64.wrap (((j : Nat) : Int) + 1)))] ?_
   refine gl_cv 160 (Ni (j + 1)) (cv_i64 (by omega)) rfl ?_
   refine glo 1 [(6, Pp b1 0), (16, .slice A215 4 c216), (17, .slice A323 ((K.take P ++ [(EA.en ⟨ix, tm, kd, dq⟩, (.slice Ad dq.length cd : Value))]).length) c324), (21, .slice A258 4 c259), (22, .slice A262 rs251.length c263), (24, Ni (j + 1))] ?_
   refine gl_done rfl ?_
   refine rnd_end (g := (j, cj, K, AK, cK)) (j + 1, { cj with es := cj.es.take P ++ [EA.en ⟨ix, tm, kd, dq⟩] }, K.take P ++ [(EA.en ⟨ix, tm, kd, dq⟩, .slice Ad dq.length cd)], A323, c324) (by kernel_rfl) ?_ ?_
   replace hH := hH.fr7.fr7.fr7.fr7.fr7.fr7.fr8
   replace hH : Hp w w322 _ _ [_, _, _, _, _, _, _] := (hH.sublist (slk (slk (slk (slk (slk (slk (slk sln))))))))
   · exact ⟨hnext, by rw [List.map_append, List.map_take, hKf]; rfl, fun q9 hq9 => (List.mem_append.1 hq9).elim (fun h => hKm q9 (List.mem_of_mem_take h)) (fun h => .inr ⟨_, List.mem_of_getElem? hq, List.mem_singleton.1 h⟩), by omega, hH⟩
   · show xL.length - (j + 1) < xL.length - j; omega
 ·
  refine st_buildS (e := 64) (zv := .agg #[.int .i64 0, .int .i64 0, .int .i64 0, .slice none 0 0]) (m := 4) (bytes := 48) rfl rfl rfl (by kernel_rfl) (by kernel_rfl) rfl (cs := [.int .i64 ix, .int .i64 tm, .int .i64 kd, .slice Ad dq.length cd]) (by kernel_rfl) rfl hH ?_
  clear hH; intro b327 w328 hH
  replace hS9 := hH.sublist (slk (slk (slk (slk (slk (slk (slk sln)))))))
  refine ⟨hS9, ?_⟩
  refine gdk [(6, Pp b1 0), (16, .slice A215 4 c216), (17, .slice AK K.length cK), (21, .slice A258 4 c259), (22, .slice A262 rs251.length c263), (24, Ni j), (194, .slice A291 (P - 0) (cK - 0)), (201, .slice (some ⟨b327, 0, none⟩) 1 1)] ?_
  refine gds 0 (st_buildS0 (e := 64) (m := 4) rfl rfl rfl (by kernel_rfl) (by kernel_rfl) hH ?_)
  clear hH; intro b329 w330 hH
  replace hH : Hp w w330 _ _ [_, _, _, _, _, _, _, _, _] := hH
  replace hS9 := hH.sublist (slk (slk (slk (slk (slk (slk (slk sln)))))))
  refine ⟨hS9, ?_⟩
  have hKv : EnV (K.take P) := fun q hq => (enV_rb (c := w330.cell?) (fun q hq => (hKm q hq).elim (fun h => enRows_rb hH 1 rfl q h) (fun ⟨x, hx, h⟩ => by rw [h]; exact (hxq x hx).mono hH.zin))) q (List.mem_of_mem_take hq)
  have hPl : (K.take P).length = P := by rw [List.length_take]; omega
  refine gds 4 (st_appH (e := 64) (zv := .agg #[.int .i64 0, .int .i64 0, .int .i64 0, .slice none 0 0]) (m := 4) (bytes := 48) 8 rfl rfl rfl (by kernel_rfl) (by kernel_rfl) rfl (by decide) hH rfl rfl rfl (Win.reads hH 0 rfl hv293 (by omega) (by omega) (by omega)) (by intro u hu; rw [Nat.zero_mul, List.drop_zero, Nat.sub_zero, rowC_take enC_len] at hu; exact en_one hKv u hu) (by unfold maxLen; omega) (by omega) ?_)
  clear hH; intro v331 w332 hH
  replace hH := hH.row_eq 8 (l' := (K.take P).length) (xs' := rowC enC (K.take P)) rfl (by omega) (by rw [List.nil_append, Nat.zero_mul, List.drop_zero, Nat.sub_zero, rowC_take enC_len])
  obtain ⟨A333, c334, rfl, hl335, hm336⟩ := hH.row_form 8 rfl
  replace hH : Hp w w332 _ _ [_, _, _, _, _, _, _, _, _] := hH
  replace hS9 := hH.sublist (slk (slk (slk (slk (slk (slk (slk sln)))))))
  refine ⟨hS9, ?_⟩
  refine gds 11 (st_appH (e := 64) (zv := .agg #[.int .i64 0, .int .i64 0, .int .i64 0, .slice none 0 0]) (m := 4) (bytes := 48) 8 rfl rfl rfl (by kernel_rfl) (by kernel_rfl) rfl (by decide) hH rfl rfl rfl (hH.row_reads 7 rfl) (by simp [Value.oneCell']) (by unfold maxLen; omega) (by omega) ?_)
  clear hH; intro v337 w338 hH
  replace hH := hH.row_eq 8 (l' := (K.take P ++ [(EA.en ⟨ix, tm, kd, dq⟩, (.slice Ad dq.length cd : Value))]).length) (xs' := rowC enC (K.take P ++ [(EA.en ⟨ix, tm, kd, dq⟩, (.slice Ad dq.length cd : Value))])) rfl (by rw [List.length_append]; rfl) (rowC_snoc _ _ (en_cells (e := ⟨ix, tm, kd, dq⟩) (by simp only; omega) p1 p2 _))
  obtain ⟨A339, c340, rfl, hl341, hm342⟩ := hH.row_form 8 rfl
  replace hH : Hp w w338 _ _ [_, _, _, _, _, _, _, _, _] := hH
  replace hS9 := hH.sublist (slk (slk (slk (slk (slk (slk (slk sln)))))))
  refine ⟨hS9, ?_⟩
  refine gdk [(6, Pp b1 0), (16, .slice A215 4 c216), (17, .slice AK K.length cK), (21, .slice A258 4 c259), (22, .slice A262 rs251.length c263), (24, Ni j), (202, .slice A339 ((K.take P ++ [(EA.en ⟨ix, tm, kd, dq⟩, (.slice Ad dq.length cd : Value))]).length) c340)] ?_
  refine gdo 1 [12] [(6, Pp b1 0), (16, .slice A215 4 c216), (17, .slice A339 ((K.take P ++ [(EA.en ⟨ix, tm, kd, dq⟩, (.slice Ad dq.length cd : Value))]).length) c340), (21, .slice A258 4 c259), (22, .slice A262 rs251.length c263), (24, Ni j)] hS9 (PQ.bk (PQ.th (PQ.th (PQ.bk (PQ.th PQ.body))))) ?_
  refine gdn [(6, Pp b1 0), (16, .slice A215 4 c216), (17, .slice A339 ((K.take P ++ [(EA.en ⟨ix, tm, kd, dq⟩, (.slice Ad dq.length cd : Value))]).length) c340), (21, .slice A258 4 c259), (22, .slice A262 rs251.length c263), (24, Ni j)] ?_
  refine bkN ?_
  refine sw_next ?_
  refine sw_region ?_
  refine glo 2 [(6, Pp b1 0), (16, .slice A215 4 c216), (17, .slice A339 ((K.take P ++ [(EA.en ⟨ix, tm, kd, dq⟩, (.slice Ad dq.length cd : Value))]).length) c340), (21, .slice A258 4 c259), (22, .slice A262 rs251.length c263), (160, .int .i64 (IntKind.i64.wrap (((j : Nat) : Int) + 1)))] ?_
  refine gl_cv 160 (Ni (j + 1)) (cv_i64 (by omega)) rfl ?_
  refine glo 1 [(6, Pp b1 0), (16, .slice A215 4 c216), (17, .slice A339 ((K.take P ++ [(EA.en ⟨ix, tm, kd, dq⟩, (.slice Ad dq.length cd : Value))]).length) c340), (21, .slice A258 4 c259), (22, .slice A262 rs251.length c263), (24, Ni (j + 1))] ?_
  refine gl_done rfl ?_
  refine rnd_end (g := (j, cj, K, AK, cK)) (j + 1, { cj with es := cj.es.take P ++ [EA.en ⟨ix, tm, kd, dq⟩] }, K.take P ++ [(EA.en ⟨ix, tm, kd, dq⟩, .slice Ad dq.length cd)], A339, c340) (by kernel_rfl) ?_ ?_
  replace hH := hH.fr7.fr7.fr7.fr7.fr7.fr7.fr9
  replace hH : Hp w w338 _ _ [_, _, _, _, _, _, _] := (hH.sublist (slk (slk (slk (slk (slk (slk (slk sln))))))))
  · exact ⟨hnext, by rw [List.map_append, List.map_take, hKf]; rfl, fun q9 hq9 => (List.mem_append.1 hq9).elim (fun h => hKm q9 (List.mem_of_mem_take h)) (fun h => .inr ⟨_, List.mem_of_getElem? hq, List.mem_singleton.1 h⟩), by omega, hH⟩
  · show xL.length - (j + 1) < xL.length - j; omega
end Go.Proofs.YtajapgjemefoiaaGreatDoor
