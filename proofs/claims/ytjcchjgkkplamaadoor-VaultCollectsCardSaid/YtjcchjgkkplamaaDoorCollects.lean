/- Law 20: an inbox, part by part: the program's answers as the document's: the law's walk. -/
import Derived.Test.YtjcchjgkkplamaaDoorSmall
import Derived.Test.YtjcchjgkkplamaaDoorSame
import Derived.Test.YtjcchjgkkplamaaDoorLent
import Derived.Test.YtjcchjgkkplamaaDoorRWant
import Derived.Test.YtjcchjgkkplamaaDoorSWF
set_option maxRecDepth 100000
set_option maxHeartbeats 4000000
set_option linter.unusedVariables false
set_option linter.unusedSimpArgs false
namespace Go.Proofs.YtjcchjgkkplamaaDoor
open Go.RowKit Go.SW
theorem off_one {w0 w : World} {z : Zone} {F : List Nat} {mine os : List Own} (hH : Hp w0 w z F (mine ++ os)) (k : Nat) {v : Value} {e : TypeId} {m n : Nat} {xs : List Value} (hk : os[k]? = some (.row v e m n xs)) : Row (off w (blksOf mine)) v m n xs := by
  have hm := List.mem_of_getElem? hk
  refine off_row hH hm (hH.own _ (List.mem_append_right _ hm)) (fun g hg => ?_)
  show g ∈ v.ownBlock.toList
  rw [hg]; simp
/-- The cells of a part among the law's arguments. -/
def prtC (q : Prt × Value) : List Value := [.int .i64 q.1.idx, .int .i64 q.1.term, .int .i64 q.1.n, .int .i64 q.1.many, q.2]
theorem prtC_len (q : Prt × Value) : (prtC q).length = 5 := rfl
theorem rows3 {w0 w : World} {z : Zone} {F : List Nat} {e : TypeId} {a0 a1 a2 : Value} {r : List Own} (h : Hp w0 w z F (anyO e a0 :: anyO e a1 :: anyO e a2 :: r)) : Hp w0 w z F (.grp ([a0, a1, a2].map (anyO e)) :: r) := by
  have h3 : Hp w0 w z F ([a0, a1, a2].map (anyO e) ++ r) := h
  exact h3.close

theorem VaultCollects_ct (vp : Value) (ps : List (Prt × Value)) (w : World) (hG : w.cell? ⟨0, 0, none⟩ = some errTy) (kP : Row w.cell? vp 5 ps.length (rowC prtC ps)) (hps : ∀ q ∈ ps, RB w.cell? q.2 q.1.bytes ∧ q.1.I64 ∧ q.1.bytes.length ≤ 140737488355328) :
    Fun Tryd.prog 4 [vp] w fun v w' => v = .bool true ∧ Fresh w w' [] := by
  obtain ⟨Ap, cp, rfl, kP1, kP2⟩ := kP.form
  refine fun_of_sw Tryd.func4 rfl 135 rfl rfl ?_
  have hH := Hp.start w
  refine sw_seq ?_
  refine sw_region ?_  -- R0 law.go:100
  refine gl_ops 1 [(0, .slice Ap ps.length cp)] (by kernel_rfl) ?_
  refine gl_done rfl ?_
  refine sw_next ?_
  refine sw_seq ?_
  refine sw_region ?_  -- R1 law.go:101
  refine gl_st (st_call rfl rfl rfl (by kernel_rfl) rfl (Small_ct _ (hH.zin _ _ hG)) ?_)
  rintro _ w1 ⟨rfl, hF2⟩
  replace hH := hH.call hF2; clear hF2
  refine gl_ops 1 [(0, .slice Ap ps.length cp), (3, .bool true)] (by kernel_rfl) ?_
  refine gl_done rfl ?_
  refine sw_next ?_
  refine sw_seq ?_
  refine sw_region ?_  -- R2 law.go:102
  refine gl_st (st_call rfl rfl rfl (by kernel_rfl) rfl (NewInbox_ct _) ?_)
  rintro _ w6 ⟨xb3, mb4, rfl, hF7⟩
  replace hH := hH.call hF7; clear hF7
  refine gl_ops 1 [(0, .slice Ap ps.length cp), (3, .bool true), (4, .pointer (some ⟨xb3, 0, none⟩))] (by kernel_rfl) ?_
  refine gl_done rfl ?_
  refine sw_next ?_
  refine sw_seq ?_
  refine sw_seq ?_
  refine sw_region ?_  -- R3 law.go:103
  refine gl_ops 6 [(0, .slice Ap ps.length cp), (4, .pointer (some ⟨xb3, 0, none⟩)), (30, .bool false)] (by kernel_rfl) ?_
  refine gl_done rfl ?_
  refine sw_next ?_
  refine sw_false rfl rfl ?_
  refine sw_skip ?_
  refine sw_next ?_
  refine sw_seq ?_
  refine sw_region ?_  -- R5 law.go:106
  refine gl_ops 1 [(0, .slice Ap ps.length cp), (4, .pointer (some ⟨xb3, 0, none⟩)), (31, .agg #[.bool false, .int .i64 0, .int .i64 0, .bool false, .slice none 0 0, .slice none 0 0])] (by kernel_rfl) ?_
  refine gl_st (st_boxH (cs := [.bool false, .int .i64 0, .int .i64 0, .bool false, .slice none 0 0, .slice none 0 0]) rfl rfl rfl rfl hH ?_)
  clear hH; intro b8 w9 hH
  refine gl_ops 1 [(0, .slice Ap ps.length cp), (4, .pointer (some ⟨xb3, 0, none⟩)), (5, .pointer (some ⟨b8, 0, none⟩))] (by kernel_rfl) ?_
  refine gl_done rfl ?_
  refine sw_next ?_
  refine sw_seq ?_
  refine sw_seq ?_
  replace hH := (hH.nilRow 9 1).nilRow 4 1
  replace hH : Hp w w9 (w.cell?) [] [.grp (ibxO xb3 0 mb4 ⟨none, 0, []⟩ []), .blk b8 58 [.bool false, .int .i64 0, .int .i64 0, .bool false, .slice none 0 0, .slice none 0 0], .row (.slice none 0 0) 9 1 0 [], .row (.slice none 0 0) 4 1 0 []] := hH
  replace hH := hH.pick [1, 2, 3, 0] (by kernel_rfl) (os' := [.blk b8 58 [.bool false, .int .i64 0, .int .i64 0, .bool false, .slice none 0 0, .slice none 0 0], .row (.slice none 0 0) 9 1 0 [], .row (.slice none 0 0) 4 1 0 [], .grp (ibxO xb3 0 mb4 ⟨none, 0, []⟩ [])]) (by kernel_rfl)
  replace hH : Hp w w9 (w.cell?) [] (rbxO b8 (.slice none 0 0) (.slice none 0 0) ⟨none, 0, []⟩ ++ [.grp (ibxO xb3 0 mb4 ⟨none, 0, []⟩ [])]) := hH
  replace hH := hH.close
  replace hH : Hp w w9 (w.cell?) [] [.grp (rbxO b8 (.slice none 0 0) (.slice none 0 0) ⟨none, 0, []⟩), .grp (ibxO xb3 0 mb4 ⟨none, 0, []⟩ [])] := hH
  replace hH := hH.pick [1, 0] (by kernel_rfl) (os' := [.grp (ibxO xb3 0 mb4 ⟨none, 0, []⟩ []), .grp (rbxO b8 (.slice none 0 0) (.slice none 0 0) ⟨none, 0, []⟩)]) (by kernel_rfl)
  replace hH := (hH.sublist (.cons_cons _ (.cons_cons _ (List.nil_sublist _))))
  replace hH : Hp w w9 (w.cell?) [] [.grp (ibxO xb3 0 mb4 ⟨none, 0, []⟩ []), .grp (rbxO b8 (.slice none 0 0) (.slice none 0 0) ⟨none, 0, []⟩)] := hH
  refine sw_region ?_  -- R6 law.go:107
  refine gl_ops 1 [(0, .slice Ap ps.length cp), (4, .pointer (some ⟨xb3, 0, none⟩)), (5, .pointer (some ⟨b8, 0, none⟩)), (6, .int .i64 0)] (by kernel_rfl) ?_
  refine gl_done rfl ?_
  refine sw_next ?_
  refine sw_block ?_
  refine sw_loop (γ := Nat × Ibx × Nat × List (Int × Value) × Value × Value) (fun (i, S, nb, l, rv, tv) => [(0, .slice Ap ps.length cp), (4, .pointer (some ⟨xb3, 0, none⟩)), (5, .pointer (some ⟨b8, 0, none⟩)), (6, .int .i64 ((i : Nat) : Int))]) (fun (i, S, nb, l, rv, tv) w_ => (i ≤ ps.length) ∧ (S.Fit l) ∧ (S.Keyed) ∧ Hp w w_ (w.cell?) [] [.grp (ibxO xb3 nb mb4 S l), .grp (rbxO b8 rv tv S)]) (fun (i, S, nb, l, rv, tv) => ps.length - i) (0, ⟨none, 0, []⟩, 0, [], .slice none 0 0, .slice none 0 0) (Sub.of_eq (by kernel_rfl)) ?_ ?_
  · exact ⟨by omega, fit_new, keys_nil _, hH⟩
  clear hH
  rintro ⟨i, S, nb, l, rv, tv⟩ w10 ⟨hi, hF, hK, hH⟩
  refine sw_keep [(0, .slice Ap ps.length cp), (4, .pointer (some ⟨xb3, 0, none⟩)), (5, .pointer (some ⟨b8, 0, none⟩)), (6, .int .i64 ((i : Nat) : Int))] (by kernel_rfl) ?_
  refine sw_seq ?_
  refine sw_seq ?_
  refine sw_region ?_  -- R7 law.go:107
  refine gl_ops 2 [(0, .slice Ap ps.length cp), (4, .pointer (some ⟨xb3, 0, none⟩)), (5, .pointer (some ⟨b8, 0, none⟩)), (6, .int .i64 ((i : Nat) : Int)), (33, .int .i64 ((i : Nat) : Int)), (34, .slice Ap ps.length cp)] (by kernel_rfl) ?_
  refine gl_q rfl rfl rfl (rd_len (e := 48) (by kernel_rfl) rfl) ?_
  refine gl_ops 2 [(0, .slice Ap ps.length cp), (4, .pointer (some ⟨xb3, 0, none⟩)), (5, .pointer (some ⟨b8, 0, none⟩)), (6, .int .i64 ((i : Nat) : Int)), (37, .bool (decide (((i : Nat) : Int) < ((ps.length : Nat) : Int))))] (by kernel_rfl) ?_
  refine gl_split 37 (b := decide (((i : Nat) : Int) < ((ps.length : Nat) : Int))) rfl (fun hg2 => ?_) (fun hg2 => ?_)
  ·
    try simp only [decide_eq_true_eq, beq_iff_eq, bne_iff_ne, ne_eq, Bool.not_eq_true', beq_eq_false_iff_ne, bne_eq_false_iff_eq, decide_eq_false_iff_not, Int.not_lt, Int.not_le] at hg2
    refine gl_ops 3 [(0, .slice Ap ps.length cp), (4, .pointer (some ⟨xb3, 0, none⟩)), (5, .pointer (some ⟨b8, 0, none⟩)), (6, .int .i64 ((i : Nat) : Int)), (40, .bool (decide (((i : Nat) : Int) < (100 : Int))))] (by kernel_rfl) ?_
    refine gl_done rfl ?_
    refine sw_next ?_
    refine sw_cond rfl rfl (fun hc3 => ?_) (fun hc3 => ?_)
    ·
      try simp only [decide_eq_true_eq, beq_iff_eq, bne_iff_ne, ne_eq, Bool.not_eq_true', beq_eq_false_iff_ne, bne_eq_false_iff_eq, decide_eq_false_iff_not, Int.not_lt, Int.not_le] at hc3
      refine sw_skip ?_
      refine sw_next ?_
      refine sw_seq ?_
      refine sw_block ?_
      refine sw_seq ?_
      obtain ⟨⟨p, vb⟩, hpk⟩ : ∃ q, ps[i]? = some q := ⟨_, List.getElem?_eq_getElem (by omega)⟩
      obtain ⟨hb, hp, hbl⟩ : RB w.cell? vb p.bytes ∧ p.I64 ∧ p.bytes.length ≤ 140737488355328 := hps _ (List.mem_of_getElem? hpk)
      obtain ⟨Ab, cb, rfl, hb1, hb2⟩ := hb.row.form
      refine sw_region ?_  -- R9 law.go:108
      obtain ⟨p11, hi13, hp12⟩ := kP.idx i (by omega) (by decide)
      refine gl_ops 2 [(0, .slice Ap ps.length cp), (4, .pointer (some ⟨xb3, 0, none⟩)), (5, .pointer (some ⟨b8, 0, none⟩)), (6, .int .i64 ((i : Nat) : Int)), (43, .slice Ap ps.length cp), (44, .int .i64 ((i : Nat) : Int))] (by kernel_rfl) ?_
      refine gl_q rfl rfl rfl (rd_idx (e := 48) (m := 5) (by kernel_rfl) (by kernel_rfl) rfl rfl hi13) ?_
      refine gl_q rfl rfl rfl (rd_loadZA (by kernel_rfl) hH hp12 rfl 0 rfl [.int .i64 p.idx, .int .i64 p.term, .int .i64 p.n, .int .i64 p.many, .slice Ab p.bytes.length cb] (by kernel_rfl) (rowC_all prtC_len hpk 0 _ rfl)) ?_
      refine gl_st (st_allocH rfl rfl rfl (cs := [.int .i64 0, .int .i64 0, .int .i64 0, .int .i64 0, .slice none 0 0]) (by kernel_rfl) hH ?_)
      clear hH; intro b14 w15 hH
      refine gl_st (st_storeKA (vs := [.int .i64 p.idx, .int .i64 p.term, .int .i64 p.n, .int .i64 p.many, .slice Ab p.bytes.length cb]) 2 rfl rfl rfl hH rfl rfl (by kernel_rfl) (by kernel_rfl) rfl (by simp) [.int .i64 p.idx, .int .i64 p.term, .int .i64 p.n, .int .i64 p.many, .slice Ab p.bytes.length cb] rfl ?_)
      clear hH; intro w16 hH
      refine gl_done rfl ?_
      refine sw_next ?_
      refine sw_seq ?_
      refine sw_region ?_  -- R10 law.go:109
      refine gl_ops 1 [(0, .slice Ap ps.length cp), (4, .pointer (some ⟨xb3, 0, none⟩)), (5, .pointer (some ⟨b8, 0, none⟩)), (6, .int .i64 ((i : Nat) : Int)), (7, .pointer (some ⟨b14, 0, none⟩)), (47, .pointer (some ⟨b14, 4, none⟩))] (by kernel_rfl) ?_
      refine gl_q rfl rfl rfl (rd_loadK 2 (by kernel_rfl) hH rfl rfl rfl) ?_
      refine gl_st (st_call rfl rfl rfl (by kernel_rfl) rfl (Lent_ct _ p.bytes _ (hb.mono hH.zin) (by first | omega | (simp <;> omega))) ?_)
      rintro _ w19 ⟨b17, rfl, hF20⟩
      replace hH := hH.call hF20; clear hF20
      refine gl_ops 1 [(0, .slice Ap ps.length cp), (4, .pointer (some ⟨xb3, 0, none⟩)), (5, .pointer (some ⟨b8, 0, none⟩)), (6, .int .i64 ((i : Nat) : Int)), (7, .pointer (some ⟨b14, 0, none⟩)), (49, .slice (some ⟨b17, 0, none⟩) p.bytes.length (p.bytes.length + 1)), (50, .pointer (some ⟨b14, 4, none⟩))] (by kernel_rfl) ?_
      refine gl_st (st_storeK (v := .slice (some ⟨b17, 0, none⟩) p.bytes.length (p.bytes.length + 1)) 2 rfl rfl rfl hH rfl rfl rfl (by kernel_rfl) rfl (by simp) ?_)
      clear hH; intro w21 hH
      refine gl_done rfl ?_
      refine sw_next ?_
      refine sw_seq ?_
      refine sw_region ?_  -- R11 law.go:110
      refine gl_ops 1 [(0, .slice Ap ps.length cp), (4, .pointer (some ⟨xb3, 0, none⟩)), (5, .pointer (some ⟨b8, 0, none⟩)), (6, .int .i64 ((i : Nat) : Int)), (7, .pointer (some ⟨b14, 0, none⟩)), (52, .pointer (some ⟨xb3, 0, none⟩))] (by kernel_rfl) ?_
      refine gl_q rfl rfl rfl (rd_loadKA (m := 5) 2 (by kernel_rfl) hH rfl rfl (by kernel_rfl) [.int .i64 p.idx, .int .i64 p.term, .int .i64 p.n, .int .i64 p.many, .slice (some ⟨b17, 0, none⟩) p.bytes.length (p.bytes.length + 1)] rfl rfl) ?_
      replace hH : Hp w w21 (w.cell?) [] ([.grp (ibxO xb3 nb mb4 S l)] ++ [.grp (rbxO b8 rv tv S), .blk b14 48 [.int .i64 p.idx, .int .i64 p.term, .int .i64 p.n, .int .i64 p.many, .slice (some ⟨b17, 0, none⟩) p.bytes.length (p.bytes.length + 1)], .row (.slice (some ⟨b17, 0, none⟩) (p.bytes.length + 1) (p.bytes.length + 1)) 5 1 (p.bytes.length + 1) (bv (p.bytes ++ [77]))]) := hH
      refine gl_st (st_call rfl rfl rfl (by kernel_rfl) rfl (Put_ct _ _ _ S _ p _ _ hH.mine (lent_row (off_one hH 2 rfl)) hp hF) ?_)
      rintro _ w22 ⟨nv, nb2, l2, v1, v2, R, rfl, hR, hf, hF23⟩
      replace hH := hH.turns hF23; clear hF23
      replace hH : Hp w w22 (w.cell?) [] [.grp (rbxO b8 rv tv S), .blk b14 48 [.int .i64 p.idx, .int .i64 p.term, .int .i64 p.n, .int .i64 p.many, .slice (some ⟨b17, 0, none⟩) p.bytes.length (p.bytes.length + 1)], .row (.slice (some ⟨b17, 0, none⟩) (p.bytes.length + 1) (p.bytes.length + 1)) 5 1 (p.bytes.length + 1) (bv (p.bytes ++ [77])), .grp (ibxO xb3 nb2 mb4 R.1 l2), .row v1 5 1 R.2.1.conf.length (bv R.2.1.conf), .row v2 5 1 R.2.1.data.length (bv R.2.1.data)] := hH
      obtain ⟨A24, c25, rfl, hl26, hm27⟩ := hH.row_form 4 rfl
      obtain ⟨A28, c29, rfl, hl30, hm31⟩ := hH.row_form 5 rfl
      refine gl_ops 4 [(0, .slice Ap ps.length cp), (4, .pointer (some ⟨xb3, 0, none⟩)), (5, .pointer (some ⟨b8, 0, none⟩)), (6, .int .i64 ((i : Nat) : Int)), (7, .pointer (some ⟨b14, 0, none⟩)), (55, .agg #[.int .i64 R.2.1.idx, .int .i64 R.2.1.term, .slice A24 R.2.1.conf.length c25, .slice A28 R.2.1.data.length c29]), (56, .bool R.2.2.1), (57, errV R.2.2.2)] (by kernel_rfl) ?_
      refine gl_st (st_allocH rfl rfl rfl (cs := [.int .i64 0, .int .i64 0, .slice none 0 0, .slice none 0 0]) (by kernel_rfl) hH ?_)
      clear hH; intro b32 w33 hH
      replace hH : Hp w w33 (w.cell?) [] [.grp (rbxO b8 rv tv S), .blk b14 48 [.int .i64 p.idx, .int .i64 p.term, .int .i64 p.n, .int .i64 p.many, .slice (some ⟨b17, 0, none⟩) p.bytes.length (p.bytes.length + 1)], .row (.slice (some ⟨b17, 0, none⟩) (p.bytes.length + 1) (p.bytes.length + 1)) 5 1 (p.bytes.length + 1) (bv (p.bytes ++ [77])), .grp (ibxO xb3 nb2 mb4 R.1 l2), .row (.slice A24 R.2.1.conf.length c25) 5 1 R.2.1.conf.length (bv R.2.1.conf), .row (.slice A28 R.2.1.data.length c29) 5 1 R.2.1.data.length (bv R.2.1.data), .blk b32 24 [.int .i64 0, .int .i64 0, .slice none 0 0, .slice none 0 0]] := hH
      refine gl_st (st_storeKA (vs := [.int .i64 R.2.1.idx, .int .i64 R.2.1.term, .slice A24 R.2.1.conf.length c25, .slice A28 R.2.1.data.length c29]) 6 rfl rfl rfl hH rfl rfl (by kernel_rfl) (by kernel_rfl) rfl (by simp) [.int .i64 R.2.1.idx, .int .i64 R.2.1.term, .slice A24 R.2.1.conf.length c25, .slice A28 R.2.1.data.length c29] rfl ?_)
      clear hH; intro w34 hH
      replace hH : Hp w w34 (w.cell?) [] [.grp (rbxO b8 rv tv S), .blk b14 48 [.int .i64 p.idx, .int .i64 p.term, .int .i64 p.n, .int .i64 p.many, .slice (some ⟨b17, 0, none⟩) p.bytes.length (p.bytes.length + 1)], .row (.slice (some ⟨b17, 0, none⟩) (p.bytes.length + 1) (p.bytes.length + 1)) 5 1 (p.bytes.length + 1) (bv (p.bytes ++ [77])), .grp (ibxO xb3 nb2 mb4 R.1 l2), .row (.slice A24 R.2.1.conf.length c25) 5 1 R.2.1.conf.length (bv R.2.1.conf), .row (.slice A28 R.2.1.data.length c29) 5 1 R.2.1.data.length (bv R.2.1.data), .blk b32 24 [.int .i64 R.2.1.idx, .int .i64 R.2.1.term, .slice A24 R.2.1.conf.length c25, .slice A28 R.2.1.data.length c29]] := hH
      refine gl_ops 2 [(0, .slice Ap ps.length cp), (4, .pointer (some ⟨xb3, 0, none⟩)), (5, .pointer (some ⟨b8, 0, none⟩)), (6, .int .i64 ((i : Nat) : Int)), (7, .pointer (some ⟨b14, 0, none⟩)), (8, .pointer (some ⟨b32, 0, none⟩)), (9, .bool R.2.2.1), (10, errV R.2.2.2)] (by kernel_rfl) ?_
      refine gl_done rfl ?_
      refine sw_next ?_
      refine sw_seq ?_
      refine sw_region ?_  -- R12 law.go:111
      obtain ⟨p35, hi37, hp36⟩ := kP.idx i (by omega) (by decide)
      refine gl_ops 3 [(0, .slice Ap ps.length cp), (4, .pointer (some ⟨xb3, 0, none⟩)), (5, .pointer (some ⟨b8, 0, none⟩)), (6, .int .i64 ((i : Nat) : Int)), (7, .pointer (some ⟨b14, 0, none⟩)), (8, .pointer (some ⟨b32, 0, none⟩)), (9, .bool R.2.2.1), (10, errV R.2.2.2), (59, .pointer (some ⟨b8, 0, none⟩)), (60, .slice Ap ps.length cp), (61, .int .i64 ((i : Nat) : Int))] (by kernel_rfl) ?_
      refine gl_q rfl rfl rfl (rd_idx (e := 48) (m := 5) (by kernel_rfl) (by kernel_rfl) rfl rfl hi37) ?_
      refine gl_q rfl rfl rfl (rd_loadZA (by kernel_rfl) hH hp36 rfl 0 rfl [.int .i64 p.idx, .int .i64 p.term, .int .i64 p.n, .int .i64 p.many, .slice Ab p.bytes.length cb] (by kernel_rfl) (rowC_all prtC_len hpk 0 _ rfl)) ?_
      replace hH : Hp w w34 (w.cell?) [] ([.grp (rbxO b8 rv tv S)] ++ [.blk b14 48 [.int .i64 p.idx, .int .i64 p.term, .int .i64 p.n, .int .i64 p.many, .slice (some ⟨b17, 0, none⟩) p.bytes.length (p.bytes.length + 1)], .row (.slice (some ⟨b17, 0, none⟩) (p.bytes.length + 1) (p.bytes.length + 1)) 5 1 (p.bytes.length + 1) (bv (p.bytes ++ [77])), .grp (ibxO xb3 nb2 mb4 R.1 l2), .row (.slice A24 R.2.1.conf.length c25) 5 1 R.2.1.conf.length (bv R.2.1.conf), .row (.slice A28 R.2.1.data.length c29) 5 1 R.2.1.data.length (bv R.2.1.data), .blk b32 24 [.int .i64 R.2.1.idx, .int .i64 R.2.1.term, .slice A24 R.2.1.conf.length c25, .slice A28 R.2.1.data.length c29]]) := hH
      refine gl_st (st_call rfl rfl rfl (by kernel_rfl) rfl (RPut_ct _ _ _ S _ p _ nv R hR _ hH.mine (hb.mono hH.zoff) hp hF hK) ?_)
      rintro _ w38 ⟨rv2, tv2, u1, u2, rfl, hF39⟩
      replace hH := hH.turns hF39; clear hF39
      replace hH : Hp w w38 (w.cell?) [] [.blk b14 48 [.int .i64 p.idx, .int .i64 p.term, .int .i64 p.n, .int .i64 p.many, .slice (some ⟨b17, 0, none⟩) p.bytes.length (p.bytes.length + 1)], .row (.slice (some ⟨b17, 0, none⟩) (p.bytes.length + 1) (p.bytes.length + 1)) 5 1 (p.bytes.length + 1) (bv (p.bytes ++ [77])), .grp (ibxO xb3 nb2 mb4 R.1 l2), .row (.slice A24 R.2.1.conf.length c25) 5 1 R.2.1.conf.length (bv R.2.1.conf), .row (.slice A28 R.2.1.data.length c29) 5 1 R.2.1.data.length (bv R.2.1.data), .blk b32 24 [.int .i64 R.2.1.idx, .int .i64 R.2.1.term, .slice A24 R.2.1.conf.length c25, .slice A28 R.2.1.data.length c29], .grp (rbxO b8 rv2 tv2 R.1), .row u1 5 1 R.2.1.conf.length (bv R.2.1.conf), .row u2 5 1 R.2.1.data.length (bv R.2.1.data)] := hH
      obtain ⟨A40, c41, rfl, hl42, hm43⟩ := hH.row_form 7 rfl
      obtain ⟨A44, c45, rfl, hl46, hm47⟩ := hH.row_form 8 rfl
      replace hH : Hp w w38 (w.cell?) [] [.blk b14 48 [.int .i64 p.idx, .int .i64 p.term, .int .i64 p.n, .int .i64 p.many, .slice (some ⟨b17, 0, none⟩) p.bytes.length (p.bytes.length + 1)], .row (.slice (some ⟨b17, 0, none⟩) (p.bytes.length + 1) (p.bytes.length + 1)) 5 1 (p.bytes.length + 1) (bv (p.bytes ++ [77])), .grp (ibxO xb3 nb2 mb4 R.1 l2), .row (.slice A24 R.2.1.conf.length c25) 5 1 R.2.1.conf.length (bv R.2.1.conf), .row (.slice A28 R.2.1.data.length c29) 5 1 R.2.1.data.length (bv R.2.1.data), .blk b32 24 [.int .i64 R.2.1.idx, .int .i64 R.2.1.term, .slice A24 R.2.1.conf.length c25, .slice A28 R.2.1.data.length c29], .grp (rbxO b8 rv2 tv2 R.1), .row (.slice A40 R.2.1.conf.length c41) 5 1 R.2.1.conf.length (bv R.2.1.conf), .row (.slice A44 R.2.1.data.length c45) 5 1 R.2.1.data.length (bv R.2.1.data)] := hH
      refine gl_ops 4 [(0, .slice Ap ps.length cp), (4, .pointer (some ⟨xb3, 0, none⟩)), (5, .pointer (some ⟨b8, 0, none⟩)), (6, .int .i64 ((i : Nat) : Int)), (7, .pointer (some ⟨b14, 0, none⟩)), (8, .pointer (some ⟨b32, 0, none⟩)), (9, .bool R.2.2.1), (10, errV R.2.2.2), (65, .agg #[.int .i64 R.2.1.idx, .int .i64 R.2.1.term, .slice A40 R.2.1.conf.length c41, .slice A44 R.2.1.data.length c45]), (66, .bool R.2.2.1), (67, .int .i64 ((R.2.2.2 : Nat) : Int))] (by kernel_rfl) ?_
      refine gl_st (st_allocH rfl rfl rfl (cs := [.int .i64 0, .int .i64 0, .slice none 0 0, .slice none 0 0]) (by kernel_rfl) hH ?_)
      clear hH; intro b48 w49 hH
      replace hH : Hp w w49 (w.cell?) [] [.blk b14 48 [.int .i64 p.idx, .int .i64 p.term, .int .i64 p.n, .int .i64 p.many, .slice (some ⟨b17, 0, none⟩) p.bytes.length (p.bytes.length + 1)], .row (.slice (some ⟨b17, 0, none⟩) (p.bytes.length + 1) (p.bytes.length + 1)) 5 1 (p.bytes.length + 1) (bv (p.bytes ++ [77])), .grp (ibxO xb3 nb2 mb4 R.1 l2), .row (.slice A24 R.2.1.conf.length c25) 5 1 R.2.1.conf.length (bv R.2.1.conf), .row (.slice A28 R.2.1.data.length c29) 5 1 R.2.1.data.length (bv R.2.1.data), .blk b32 24 [.int .i64 R.2.1.idx, .int .i64 R.2.1.term, .slice A24 R.2.1.conf.length c25, .slice A28 R.2.1.data.length c29], .grp (rbxO b8 rv2 tv2 R.1), .row (.slice A40 R.2.1.conf.length c41) 5 1 R.2.1.conf.length (bv R.2.1.conf), .row (.slice A44 R.2.1.data.length c45) 5 1 R.2.1.data.length (bv R.2.1.data), .blk b48 24 [.int .i64 0, .int .i64 0, .slice none 0 0, .slice none 0 0]] := hH
      refine gl_st (st_storeKA (vs := [.int .i64 R.2.1.idx, .int .i64 R.2.1.term, .slice A40 R.2.1.conf.length c41, .slice A44 R.2.1.data.length c45]) 9 rfl rfl rfl hH rfl rfl (by kernel_rfl) (by kernel_rfl) rfl (by simp) [.int .i64 R.2.1.idx, .int .i64 R.2.1.term, .slice A40 R.2.1.conf.length c41, .slice A44 R.2.1.data.length c45] rfl ?_)
      clear hH; intro w50 hH
      replace hH : Hp w w50 (w.cell?) [] [.blk b14 48 [.int .i64 p.idx, .int .i64 p.term, .int .i64 p.n, .int .i64 p.many, .slice (some ⟨b17, 0, none⟩) p.bytes.length (p.bytes.length + 1)], .row (.slice (some ⟨b17, 0, none⟩) (p.bytes.length + 1) (p.bytes.length + 1)) 5 1 (p.bytes.length + 1) (bv (p.bytes ++ [77])), .grp (ibxO xb3 nb2 mb4 R.1 l2), .row (.slice A24 R.2.1.conf.length c25) 5 1 R.2.1.conf.length (bv R.2.1.conf), .row (.slice A28 R.2.1.data.length c29) 5 1 R.2.1.data.length (bv R.2.1.data), .blk b32 24 [.int .i64 R.2.1.idx, .int .i64 R.2.1.term, .slice A24 R.2.1.conf.length c25, .slice A28 R.2.1.data.length c29], .grp (rbxO b8 rv2 tv2 R.1), .row (.slice A40 R.2.1.conf.length c41) 5 1 R.2.1.conf.length (bv R.2.1.conf), .row (.slice A44 R.2.1.data.length c45) 5 1 R.2.1.data.length (bv R.2.1.data), .blk b48 24 [.int .i64 R.2.1.idx, .int .i64 R.2.1.term, .slice A40 R.2.1.conf.length c41, .slice A44 R.2.1.data.length c45]] := hH
      refine gl_ops 2 [(0, .slice Ap ps.length cp), (4, .pointer (some ⟨xb3, 0, none⟩)), (5, .pointer (some ⟨b8, 0, none⟩)), (6, .int .i64 ((i : Nat) : Int)), (7, .pointer (some ⟨b14, 0, none⟩)), (8, .pointer (some ⟨b32, 0, none⟩)), (9, .bool R.2.2.1), (10, errV R.2.2.2), (11, .pointer (some ⟨b48, 0, none⟩)), (12, .bool R.2.2.1), (13, .int .i64 ((R.2.2.2 : Nat) : Int))] (by kernel_rfl) ?_
      refine gl_done rfl ?_
      refine sw_next ?_
      refine sw_seq ?_
      refine sw_draw (by kernel_rfl) (fun w_ => Hp w w_ (w.cell?) [] [.blk b14 48 [.int .i64 p.idx, .int .i64 p.term, .int .i64 p.n, .int .i64 p.many, .slice (some ⟨b17, 0, none⟩) p.bytes.length (p.bytes.length + 1)], .row (.slice (some ⟨b17, 0, none⟩) (p.bytes.length + 1) (p.bytes.length + 1)) 5 1 (p.bytes.length + 1) (bv (p.bytes ++ [77])), .grp (ibxO xb3 nb2 mb4 R.1 l2), .row (.slice A24 R.2.1.conf.length c25) 5 1 R.2.1.conf.length (bv R.2.1.conf), .row (.slice A28 R.2.1.data.length c29) 5 1 R.2.1.data.length (bv R.2.1.data), .blk b32 24 [.int .i64 R.2.1.idx, .int .i64 R.2.1.term, .slice A24 R.2.1.conf.length c25, .slice A28 R.2.1.data.length c29], .grp (rbxO b8 rv2 tv2 R.1), .row (.slice A40 R.2.1.conf.length c41) 5 1 R.2.1.conf.length (bv R.2.1.conf), .row (.slice A44 R.2.1.data.length c45) 5 1 R.2.1.data.length (bv R.2.1.data), .blk b48 24 [.int .i64 R.2.1.idx, .int .i64 R.2.1.term, .slice A40 R.2.1.conf.length c41, .slice A44 R.2.1.data.length c45]]) ?_  -- R13 law.go:112
      replace hH := hH.drew
      generalize { w50 with drawn := w50.drawn + 1 } = w51 at hH ⊢
      refine gd_pure 0 rfl (by kernel_rfl) (PQ.th (PQ.bk (PQ.th (PQ.th (PQ.bk (PQ.th PQ.body)))))) (hH.sublist (.cons_cons _ (.cons_cons _ (.cons_cons _ (.cons_cons _ (.cons_cons _ (.cons_cons _ (.cons_cons _ (.cons_cons _ (.cons_cons _ (.cons_cons _ (List.nil_sublist _)))))))))))) rfl rfl (.pointer (some ⟨b14, 4, none⟩)) (by kernel_rfl) ?_
      refine gd_q 1 rfl (by kernel_rfl) (PQ.th (PQ.bk (PQ.th (PQ.th (PQ.bk (PQ.th PQ.body)))))) (hH.sublist (.cons_cons _ (.cons_cons _ (.cons_cons _ (.cons_cons _ (.cons_cons _ (.cons_cons _ (.cons_cons _ (.cons_cons _ (.cons_cons _ (.cons_cons _ (List.nil_sublist _)))))))))))) rfl rfl (fun w_ hS => (rd_loadK 0 (by kernel_rfl) hS rfl rfl rfl)) ?_
      refine gd_pure 2 rfl (by kernel_rfl) (PQ.th (PQ.bk (PQ.th (PQ.th (PQ.bk (PQ.th PQ.body)))))) (hH.sublist (.cons_cons _ (.cons_cons _ (.cons_cons _ (.cons_cons _ (.cons_cons _ (.cons_cons _ (.cons_cons _ (.cons_cons _ (.cons_cons _ (.cons_cons _ (List.nil_sublist _)))))))))))) rfl rfl (.slice Ap ps.length cp) (by kernel_rfl) ?_
      refine gd_keep [(0, .slice Ap ps.length cp), (4, .pointer (some ⟨xb3, 0, none⟩)), (5, .pointer (some ⟨b8, 0, none⟩)), (6, .int .i64 ((i : Nat) : Int)), (7, .pointer (some ⟨b14, 0, none⟩)), (8, .pointer (some ⟨b32, 0, none⟩)), (9, .bool R.2.2.1), (10, errV R.2.2.2), (11, .pointer (some ⟨b48, 0, none⟩)), (12, .bool R.2.2.1), (13, .int .i64 ((R.2.2.2 : Nat) : Int)), (69, .slice (some ⟨b17, 0, none⟩) p.bytes.length (p.bytes.length + 1)), (70, .slice Ap ps.length cp)] (by kernel_rfl) ?_
      refine gd_pure 3 rfl (by kernel_rfl) (PQ.th (PQ.bk (PQ.th (PQ.th (PQ.bk (PQ.th PQ.body)))))) (hH.sublist (.cons_cons _ (.cons_cons _ (.cons_cons _ (.cons_cons _ (.cons_cons _ (.cons_cons _ (.cons_cons _ (.cons_cons _ (.cons_cons _ (.cons_cons _ (List.nil_sublist _)))))))))))) rfl rfl (.int .i64 ((i : Nat) : Int)) (by kernel_rfl) ?_
      obtain ⟨p52, hi54, hp53⟩ := kP.idx i (by omega) (by decide)
      refine gd_q 4 rfl (by kernel_rfl) (PQ.th (PQ.bk (PQ.th (PQ.th (PQ.bk (PQ.th PQ.body)))))) (hH.sublist (.cons_cons _ (.cons_cons _ (.cons_cons _ (.cons_cons _ (.cons_cons _ (.cons_cons _ (.cons_cons _ (.cons_cons _ (.cons_cons _ (.cons_cons _ (List.nil_sublist _)))))))))))) rfl rfl (fun w_ hS => (rd_idx (e := 48) (m := 5) (by kernel_rfl) (by kernel_rfl) rfl rfl hi54)) ?_
      refine gd_pure 5 rfl (by kernel_rfl) (PQ.th (PQ.bk (PQ.th (PQ.th (PQ.bk (PQ.th PQ.body)))))) (hH.sublist (.cons_cons _ (.cons_cons _ (.cons_cons _ (.cons_cons _ (.cons_cons _ (.cons_cons _ (.cons_cons _ (.cons_cons _ (.cons_cons _ (.cons_cons _ (List.nil_sublist _)))))))))))) rfl rfl (.pointer (some (p52.add 4))) (by kernel_rfl) ?_
      refine gd_keep [(0, .slice Ap ps.length cp), (4, .pointer (some ⟨xb3, 0, none⟩)), (5, .pointer (some ⟨b8, 0, none⟩)), (6, .int .i64 ((i : Nat) : Int)), (7, .pointer (some ⟨b14, 0, none⟩)), (8, .pointer (some ⟨b32, 0, none⟩)), (9, .bool R.2.2.1), (10, errV R.2.2.2), (11, .pointer (some ⟨b48, 0, none⟩)), (12, .bool R.2.2.1), (13, .int .i64 ((R.2.2.2 : Nat) : Int)), (69, .slice (some ⟨b17, 0, none⟩) p.bytes.length (p.bytes.length + 1)), (73, .pointer (some (p52.add 4)))] (by kernel_rfl) ?_
      refine gd_q 6 rfl (by kernel_rfl) (PQ.th (PQ.bk (PQ.th (PQ.th (PQ.bk (PQ.th PQ.body)))))) (hH.sublist (.cons_cons _ (.cons_cons _ (.cons_cons _ (.cons_cons _ (.cons_cons _ (.cons_cons _ (.cons_cons _ (.cons_cons _ (.cons_cons _ (.cons_cons _ (List.nil_sublist _)))))))))))) rfl rfl (fun w_ hS => (rd_load (by kernel_rfl) rfl (hS.zin _ _ (hp53 4 _ (by decide) (rowC_at prtC_len hpk 4 (by decide) rfl))))) ?_
      refine gd_st 7 (by kernel_rfl) (st_call rfl rfl rfl (by kernel_rfl) rfl (Kept_ct _ p.bytes _ _ (hH.row_reads 1 rfl) (hb.mono hH.zin) (by first | omega | (simp <;> omega))) ?_)
      rintro _ w55 ⟨rfl, hF56⟩
      replace hH := hH.call hF56; clear hF56
      replace hH : Hp w w55 (w.cell?) [] [.blk b14 48 [.int .i64 p.idx, .int .i64 p.term, .int .i64 p.n, .int .i64 p.many, .slice (some ⟨b17, 0, none⟩) p.bytes.length (p.bytes.length + 1)], .row (.slice (some ⟨b17, 0, none⟩) (p.bytes.length + 1) (p.bytes.length + 1)) 5 1 (p.bytes.length + 1) (bv (p.bytes ++ [77])), .grp (ibxO xb3 nb2 mb4 R.1 l2), .row (.slice A24 R.2.1.conf.length c25) 5 1 R.2.1.conf.length (bv R.2.1.conf), .row (.slice A28 R.2.1.data.length c29) 5 1 R.2.1.data.length (bv R.2.1.data), .blk b32 24 [.int .i64 R.2.1.idx, .int .i64 R.2.1.term, .slice A24 R.2.1.conf.length c25, .slice A28 R.2.1.data.length c29], .grp (rbxO b8 rv2 tv2 R.1), .row (.slice A40 R.2.1.conf.length c41) 5 1 R.2.1.conf.length (bv R.2.1.conf), .row (.slice A44 R.2.1.data.length c45) 5 1 R.2.1.data.length (bv R.2.1.data), .blk b48 24 [.int .i64 R.2.1.idx, .int .i64 R.2.1.term, .slice A40 R.2.1.conf.length c41, .slice A44 R.2.1.data.length c45]] := hH
      refine ⟨hH.sublist (.cons_cons _ (.cons_cons _ (.cons_cons _ (.cons_cons _ (.cons_cons _ (.cons_cons _ (.cons_cons _ (.cons_cons _ (.cons_cons _ (.cons_cons _ (List.nil_sublist _))))))))))), ?_⟩
      refine gd_keep [(0, .slice Ap ps.length cp), (4, .pointer (some ⟨xb3, 0, none⟩)), (5, .pointer (some ⟨b8, 0, none⟩)), (6, .int .i64 ((i : Nat) : Int)), (7, .pointer (some ⟨b14, 0, none⟩)), (8, .pointer (some ⟨b32, 0, none⟩)), (9, .bool R.2.2.1), (10, errV R.2.2.2), (11, .pointer (some ⟨b48, 0, none⟩)), (12, .bool R.2.2.1), (13, .int .i64 ((R.2.2.2 : Nat) : Int)), (75, .bool true)] (by kernel_rfl) ?_
      refine gd_pure 8 rfl (by kernel_rfl) (PQ.th (PQ.bk (PQ.th (PQ.th (PQ.bk (PQ.th PQ.body)))))) (hH.sublist (.cons_cons _ (.cons_cons _ (.cons_cons _ (.cons_cons _ (.cons_cons _ (.cons_cons _ (.cons_cons _ (.cons_cons _ (.cons_cons _ (.cons_cons _ (List.nil_sublist _)))))))))))) rfl rfl (.bool true) (by kernel_rfl) ?_
      refine gd_done (by kernel_rfl) ?_
      refine at_sub [(0, .slice Ap ps.length cp), (4, .pointer (some ⟨xb3, 0, none⟩)), (5, .pointer (some ⟨b8, 0, none⟩)), (6, .int .i64 ((i : Nat) : Int)), (7, .pointer (some ⟨b14, 0, none⟩)), (8, .pointer (some ⟨b32, 0, none⟩)), (9, .bool R.2.2.1), (10, errV R.2.2.2), (11, .pointer (some ⟨b48, 0, none⟩)), (12, .bool R.2.2.1), (13, .int .i64 ((R.2.2.2 : Nat) : Int)), (14, .bool true)] (Sub.of_eq (by kernel_rfl)) ?_
      refine sw_next ?_
      refine sw_seq ?_
      refine sw_region ?_  -- R14 law.go:113
      refine gl_q rfl rfl rfl (rd_loadKA (m := 4) 5 (by kernel_rfl) hH rfl rfl (by kernel_rfl) [.int .i64 R.2.1.idx, .int .i64 R.2.1.term, .slice A24 R.2.1.conf.length c25, .slice A28 R.2.1.data.length c29] rfl rfl) ?_
      refine gl_q rfl rfl rfl (rd_loadKA (m := 4) 9 (by kernel_rfl) hH rfl rfl (by kernel_rfl) [.int .i64 R.2.1.idx, .int .i64 R.2.1.term, .slice A40 R.2.1.conf.length c41, .slice A44 R.2.1.data.length c45] rfl rfl) ?_
      refine gl_st (st_call rfl rfl rfl (by kernel_rfl) rfl (Same_ct (R.2.1.idx : Int) (R.2.1.term : Int) (R.2.1.idx : Int) (R.2.1.term : Int) _ _ _ _ R.2.1.conf R.2.1.data R.2.1.conf R.2.1.data _ (rb_own hH 3 rfl) (rb_own hH 4 rfl) (rb_own hH 7 rfl) (rb_own hH 8 rfl)) ?_)
      rintro _ w57 ⟨rfl, hF58⟩
      replace hH := hH.call hF58; clear hF58
      replace hH : Hp w w57 (w.cell?) [] [.blk b14 48 [.int .i64 p.idx, .int .i64 p.term, .int .i64 p.n, .int .i64 p.many, .slice (some ⟨b17, 0, none⟩) p.bytes.length (p.bytes.length + 1)], .row (.slice (some ⟨b17, 0, none⟩) (p.bytes.length + 1) (p.bytes.length + 1)) 5 1 (p.bytes.length + 1) (bv (p.bytes ++ [77])), .grp (ibxO xb3 nb2 mb4 R.1 l2), .row (.slice A24 R.2.1.conf.length c25) 5 1 R.2.1.conf.length (bv R.2.1.conf), .row (.slice A28 R.2.1.data.length c29) 5 1 R.2.1.data.length (bv R.2.1.data), .blk b32 24 [.int .i64 R.2.1.idx, .int .i64 R.2.1.term, .slice A24 R.2.1.conf.length c25, .slice A28 R.2.1.data.length c29], .grp (rbxO b8 rv2 tv2 R.1), .row (.slice A40 R.2.1.conf.length c41) 5 1 R.2.1.conf.length (bv R.2.1.conf), .row (.slice A44 R.2.1.data.length c45) 5 1 R.2.1.data.length (bv R.2.1.data), .blk b48 24 [.int .i64 R.2.1.idx, .int .i64 R.2.1.term, .slice A40 R.2.1.conf.length c41, .slice A44 R.2.1.data.length c45]] := hH
      refine gl_cv 78 (.bool true) (by rw [sameS_refl]) rfl ?_
      refine gl_ops 1 [(0, .slice Ap ps.length cp), (4, .pointer (some ⟨xb3, 0, none⟩)), (5, .pointer (some ⟨b8, 0, none⟩)), (6, .int .i64 ((i : Nat) : Int)), (7, .pointer (some ⟨b14, 0, none⟩)), (8, .pointer (some ⟨b32, 0, none⟩)), (9, .bool R.2.2.1), (10, errV R.2.2.2), (12, .bool R.2.2.1), (13, .int .i64 ((R.2.2.2 : Nat) : Int)), (14, .bool true), (15, .bool true)] (by kernel_rfl) ?_
      refine gl_done rfl ?_
      refine sw_next ?_
      refine sw_seq ?_
      replace hH : Hp w w57 (w.cell?) [] [.blk b14 48 [.int .i64 p.idx, .int .i64 p.term, .int .i64 p.n, .int .i64 p.many, .slice (some ⟨b17, 0, none⟩) p.bytes.length (p.bytes.length + 1)], .row (.slice (some ⟨b17, 0, none⟩) (p.bytes.length + 1) (p.bytes.length + 1)) 5 1 (p.bytes.length + 1) (bv (p.bytes ++ [77])), .grp (ibxO xb3 nb2 mb4 R.1 l2), .row (.slice A24 R.2.1.conf.length c25) 5 1 R.2.1.conf.length (bv R.2.1.conf), .row (.slice A28 R.2.1.data.length c29) 5 1 R.2.1.data.length (bv R.2.1.data), .blk b32 24 [.int .i64 R.2.1.idx, .int .i64 R.2.1.term, .slice A24 R.2.1.conf.length c25, .slice A28 R.2.1.data.length c29], .grp (rbxO b8 rv2 tv2 R.1), .row (.slice A40 R.2.1.conf.length c41) 5 1 R.2.1.conf.length (bv R.2.1.conf), .row (.slice A44 R.2.1.data.length c45) 5 1 R.2.1.data.length (bv R.2.1.data), .blk b48 24 [.int .i64 R.2.1.idx, .int .i64 R.2.1.term, .slice A40 R.2.1.conf.length c41, .slice A44 R.2.1.data.length c45]] := hH
      replace hH := hH.pick [1, 0, 2, 3, 4, 5, 6, 7, 8, 9] (by kernel_rfl) (os' := [.row (.slice (some ⟨b17, 0, none⟩) (p.bytes.length + 1) (p.bytes.length + 1)) 5 1 (p.bytes.length + 1) (bv (p.bytes ++ [77])), .blk b14 48 [.int .i64 p.idx, .int .i64 p.term, .int .i64 p.n, .int .i64 p.many, .slice (some ⟨b17, 0, none⟩) p.bytes.length (p.bytes.length + 1)], .grp (ibxO xb3 nb2 mb4 R.1 l2), .row (.slice A24 R.2.1.conf.length c25) 5 1 R.2.1.conf.length (bv R.2.1.conf), .row (.slice A28 R.2.1.data.length c29) 5 1 R.2.1.data.length (bv R.2.1.data), .blk b32 24 [.int .i64 R.2.1.idx, .int .i64 R.2.1.term, .slice A24 R.2.1.conf.length c25, .slice A28 R.2.1.data.length c29], .grp (rbxO b8 rv2 tv2 R.1), .row (.slice A40 R.2.1.conf.length c41) 5 1 R.2.1.conf.length (bv R.2.1.conf), .row (.slice A44 R.2.1.data.length c45) 5 1 R.2.1.data.length (bv R.2.1.data), .blk b48 24 [.int .i64 R.2.1.idx, .int .i64 R.2.1.term, .slice A40 R.2.1.conf.length c41, .slice A44 R.2.1.data.length c45]]) (by kernel_rfl)
      replace hH : Hp _ _ _ _ (anyO 5 (.slice (some ⟨b17, 0, none⟩) p.bytes.length (p.bytes.length + 1)) :: _) := row_any' (by omega) hH
      replace hH : Hp w w57 (w.cell?) [] [anyO 5 (.slice (some ⟨b17, 0, none⟩) p.bytes.length (p.bytes.length + 1)), .blk b14 48 [.int .i64 p.idx, .int .i64 p.term, .int .i64 p.n, .int .i64 p.many, .slice (some ⟨b17, 0, none⟩) p.bytes.length (p.bytes.length + 1)], .grp (ibxO xb3 nb2 mb4 R.1 l2), .row (.slice A24 R.2.1.conf.length c25) 5 1 R.2.1.conf.length (bv R.2.1.conf), .row (.slice A28 R.2.1.data.length c29) 5 1 R.2.1.data.length (bv R.2.1.data), .blk b32 24 [.int .i64 R.2.1.idx, .int .i64 R.2.1.term, .slice A24 R.2.1.conf.length c25, .slice A28 R.2.1.data.length c29], .grp (rbxO b8 rv2 tv2 R.1), .row (.slice A40 R.2.1.conf.length c41) 5 1 R.2.1.conf.length (bv R.2.1.conf), .row (.slice A44 R.2.1.data.length c45) 5 1 R.2.1.data.length (bv R.2.1.data), .blk b48 24 [.int .i64 R.2.1.idx, .int .i64 R.2.1.term, .slice A40 R.2.1.conf.length c41, .slice A44 R.2.1.data.length c45]] := hH
      replace hH := hH.pick [3, 0, 1, 2, 4, 5, 6, 7, 8, 9] (by kernel_rfl) (os' := [.row (.slice A24 R.2.1.conf.length c25) 5 1 R.2.1.conf.length (bv R.2.1.conf), anyO 5 (.slice (some ⟨b17, 0, none⟩) p.bytes.length (p.bytes.length + 1)), .blk b14 48 [.int .i64 p.idx, .int .i64 p.term, .int .i64 p.n, .int .i64 p.many, .slice (some ⟨b17, 0, none⟩) p.bytes.length (p.bytes.length + 1)], .grp (ibxO xb3 nb2 mb4 R.1 l2), .row (.slice A28 R.2.1.data.length c29) 5 1 R.2.1.data.length (bv R.2.1.data), .blk b32 24 [.int .i64 R.2.1.idx, .int .i64 R.2.1.term, .slice A24 R.2.1.conf.length c25, .slice A28 R.2.1.data.length c29], .grp (rbxO b8 rv2 tv2 R.1), .row (.slice A40 R.2.1.conf.length c41) 5 1 R.2.1.conf.length (bv R.2.1.conf), .row (.slice A44 R.2.1.data.length c45) 5 1 R.2.1.data.length (bv R.2.1.data), .blk b48 24 [.int .i64 R.2.1.idx, .int .i64 R.2.1.term, .slice A40 R.2.1.conf.length c41, .slice A44 R.2.1.data.length c45]]) (by kernel_rfl)
      replace hH := row_any hH
      replace hH : Hp w w57 (w.cell?) [] [anyO 5 (.slice A24 R.2.1.conf.length c25), anyO 5 (.slice (some ⟨b17, 0, none⟩) p.bytes.length (p.bytes.length + 1)), .blk b14 48 [.int .i64 p.idx, .int .i64 p.term, .int .i64 p.n, .int .i64 p.many, .slice (some ⟨b17, 0, none⟩) p.bytes.length (p.bytes.length + 1)], .grp (ibxO xb3 nb2 mb4 R.1 l2), .row (.slice A28 R.2.1.data.length c29) 5 1 R.2.1.data.length (bv R.2.1.data), .blk b32 24 [.int .i64 R.2.1.idx, .int .i64 R.2.1.term, .slice A24 R.2.1.conf.length c25, .slice A28 R.2.1.data.length c29], .grp (rbxO b8 rv2 tv2 R.1), .row (.slice A40 R.2.1.conf.length c41) 5 1 R.2.1.conf.length (bv R.2.1.conf), .row (.slice A44 R.2.1.data.length c45) 5 1 R.2.1.data.length (bv R.2.1.data), .blk b48 24 [.int .i64 R.2.1.idx, .int .i64 R.2.1.term, .slice A40 R.2.1.conf.length c41, .slice A44 R.2.1.data.length c45]] := hH
      replace hH := hH.pick [4, 0, 1, 2, 3, 5, 6, 7, 8, 9] (by kernel_rfl) (os' := [.row (.slice A28 R.2.1.data.length c29) 5 1 R.2.1.data.length (bv R.2.1.data), anyO 5 (.slice A24 R.2.1.conf.length c25), anyO 5 (.slice (some ⟨b17, 0, none⟩) p.bytes.length (p.bytes.length + 1)), .blk b14 48 [.int .i64 p.idx, .int .i64 p.term, .int .i64 p.n, .int .i64 p.many, .slice (some ⟨b17, 0, none⟩) p.bytes.length (p.bytes.length + 1)], .grp (ibxO xb3 nb2 mb4 R.1 l2), .blk b32 24 [.int .i64 R.2.1.idx, .int .i64 R.2.1.term, .slice A24 R.2.1.conf.length c25, .slice A28 R.2.1.data.length c29], .grp (rbxO b8 rv2 tv2 R.1), .row (.slice A40 R.2.1.conf.length c41) 5 1 R.2.1.conf.length (bv R.2.1.conf), .row (.slice A44 R.2.1.data.length c45) 5 1 R.2.1.data.length (bv R.2.1.data), .blk b48 24 [.int .i64 R.2.1.idx, .int .i64 R.2.1.term, .slice A40 R.2.1.conf.length c41, .slice A44 R.2.1.data.length c45]]) (by kernel_rfl)
      replace hH := row_any hH
      replace hH : Hp w w57 (w.cell?) [] [anyO 5 (.slice A28 R.2.1.data.length c29), anyO 5 (.slice A24 R.2.1.conf.length c25), anyO 5 (.slice (some ⟨b17, 0, none⟩) p.bytes.length (p.bytes.length + 1)), .blk b14 48 [.int .i64 p.idx, .int .i64 p.term, .int .i64 p.n, .int .i64 p.many, .slice (some ⟨b17, 0, none⟩) p.bytes.length (p.bytes.length + 1)], .grp (ibxO xb3 nb2 mb4 R.1 l2), .blk b32 24 [.int .i64 R.2.1.idx, .int .i64 R.2.1.term, .slice A24 R.2.1.conf.length c25, .slice A28 R.2.1.data.length c29], .grp (rbxO b8 rv2 tv2 R.1), .row (.slice A40 R.2.1.conf.length c41) 5 1 R.2.1.conf.length (bv R.2.1.conf), .row (.slice A44 R.2.1.data.length c45) 5 1 R.2.1.data.length (bv R.2.1.data), .blk b48 24 [.int .i64 R.2.1.idx, .int .i64 R.2.1.term, .slice A40 R.2.1.conf.length c41, .slice A44 R.2.1.data.length c45]] := hH
      replace hH := hH.pick [2, 1, 0, 3, 4, 5, 6, 7, 8, 9] (by kernel_rfl) (os' := [anyO 5 (.slice (some ⟨b17, 0, none⟩) p.bytes.length (p.bytes.length + 1)), anyO 5 (.slice A24 R.2.1.conf.length c25), anyO 5 (.slice A28 R.2.1.data.length c29), .blk b14 48 [.int .i64 p.idx, .int .i64 p.term, .int .i64 p.n, .int .i64 p.many, .slice (some ⟨b17, 0, none⟩) p.bytes.length (p.bytes.length + 1)], .grp (ibxO xb3 nb2 mb4 R.1 l2), .blk b32 24 [.int .i64 R.2.1.idx, .int .i64 R.2.1.term, .slice A24 R.2.1.conf.length c25, .slice A28 R.2.1.data.length c29], .grp (rbxO b8 rv2 tv2 R.1), .row (.slice A40 R.2.1.conf.length c41) 5 1 R.2.1.conf.length (bv R.2.1.conf), .row (.slice A44 R.2.1.data.length c45) 5 1 R.2.1.data.length (bv R.2.1.data), .blk b48 24 [.int .i64 R.2.1.idx, .int .i64 R.2.1.term, .slice A40 R.2.1.conf.length c41, .slice A44 R.2.1.data.length c45]]) (by kernel_rfl)
      replace hH := rows3 hH
      replace hH : Hp w w57 (w.cell?) [] [.grp ([Value.slice (some ⟨b17, 0, none⟩) p.bytes.length (p.bytes.length + 1), Value.slice A24 R.2.1.conf.length c25, Value.slice A28 R.2.1.data.length c29].map (anyO 5)), .blk b14 48 [.int .i64 p.idx, .int .i64 p.term, .int .i64 p.n, .int .i64 p.many, .slice (some ⟨b17, 0, none⟩) p.bytes.length (p.bytes.length + 1)], .grp (ibxO xb3 nb2 mb4 R.1 l2), .blk b32 24 [.int .i64 R.2.1.idx, .int .i64 R.2.1.term, .slice A24 R.2.1.conf.length c25, .slice A28 R.2.1.data.length c29], .grp (rbxO b8 rv2 tv2 R.1), .row (.slice A40 R.2.1.conf.length c41) 5 1 R.2.1.conf.length (bv R.2.1.conf), .row (.slice A44 R.2.1.data.length c45) 5 1 R.2.1.data.length (bv R.2.1.data), .blk b48 24 [.int .i64 R.2.1.idx, .int .i64 R.2.1.term, .slice A40 R.2.1.conf.length c41, .slice A44 R.2.1.data.length c45]] := hH
      refine sw_region ?_  -- R15 law.go:114
      refine gl_ops 1 [(0, .slice Ap ps.length cp), (4, .pointer (some ⟨xb3, 0, none⟩)), (5, .pointer (some ⟨b8, 0, none⟩)), (6, .int .i64 ((i : Nat) : Int)), (8, .pointer (some ⟨b32, 0, none⟩)), (9, .bool R.2.2.1), (10, errV R.2.2.2), (12, .bool R.2.2.1), (13, .int .i64 ((R.2.2.2 : Nat) : Int)), (14, .bool true), (15, .bool true), (79, .pointer (some ⟨b14, 4, none⟩))] (by kernel_rfl) ?_
      refine gl_q rfl rfl rfl (rd_loadK 1 (by kernel_rfl) hH rfl rfl rfl) ?_
      refine gl_ops 1 [(0, .slice Ap ps.length cp), (4, .pointer (some ⟨xb3, 0, none⟩)), (5, .pointer (some ⟨b8, 0, none⟩)), (6, .int .i64 ((i : Nat) : Int)), (8, .pointer (some ⟨b32, 0, none⟩)), (9, .bool R.2.2.1), (10, errV R.2.2.2), (12, .bool R.2.2.1), (13, .int .i64 ((R.2.2.2 : Nat) : Int)), (14, .bool true), (15, .bool true), (80, .slice (some ⟨b17, 0, none⟩) p.bytes.length (p.bytes.length + 1)), (81, .pointer (some ⟨b32, 2, none⟩))] (by kernel_rfl) ?_
      refine gl_q rfl rfl rfl (rd_loadK 3 (by kernel_rfl) hH rfl rfl rfl) ?_
      refine gl_ops 1 [(0, .slice Ap ps.length cp), (4, .pointer (some ⟨xb3, 0, none⟩)), (5, .pointer (some ⟨b8, 0, none⟩)), (6, .int .i64 ((i : Nat) : Int)), (9, .bool R.2.2.1), (10, errV R.2.2.2), (12, .bool R.2.2.1), (13, .int .i64 ((R.2.2.2 : Nat) : Int)), (14, .bool true), (15, .bool true), (80, .slice (some ⟨b17, 0, none⟩) p.bytes.length (p.bytes.length + 1)), (82, .slice A24 R.2.1.conf.length c25), (83, .pointer (some ⟨b32, 3, none⟩))] (by kernel_rfl) ?_
      refine gl_q rfl rfl rfl (rd_loadK 3 (by kernel_rfl) hH rfl rfl rfl) ?_
      refine gl_st (st_buildS (e := 22) (zv := .slice none 0 0) (m := 1) (bytes := 24) rfl rfl rfl (by kernel_rfl) (by kernel_rfl) rfl (cs := [.slice (some ⟨b17, 0, none⟩) p.bytes.length (p.bytes.length + 1), .slice A24 R.2.1.conf.length c25, .slice A28 R.2.1.data.length c29]) (by kernel_rfl) rfl hH ?_)
      clear hH; intro b59 w60 hH
      replace hH : Hp w w60 (w.cell?) [] [.grp ([Value.slice (some ⟨b17, 0, none⟩) p.bytes.length (p.bytes.length + 1), Value.slice A24 R.2.1.conf.length c25, Value.slice A28 R.2.1.data.length c29].map (anyO 5)), .blk b14 48 [.int .i64 p.idx, .int .i64 p.term, .int .i64 p.n, .int .i64 p.many, .slice (some ⟨b17, 0, none⟩) p.bytes.length (p.bytes.length + 1)], .grp (ibxO xb3 nb2 mb4 R.1 l2), .blk b32 24 [.int .i64 R.2.1.idx, .int .i64 R.2.1.term, .slice A24 R.2.1.conf.length c25, .slice A28 R.2.1.data.length c29], .grp (rbxO b8 rv2 tv2 R.1), .row (.slice A40 R.2.1.conf.length c41) 5 1 R.2.1.conf.length (bv R.2.1.conf), .row (.slice A44 R.2.1.data.length c45) 5 1 R.2.1.data.length (bv R.2.1.data), .blk b48 24 [.int .i64 R.2.1.idx, .int .i64 R.2.1.term, .slice A40 R.2.1.conf.length c41, .slice A44 R.2.1.data.length c45], .row (.slice (some ⟨b59, 0, none⟩) 3 3) 22 1 3 [.slice (some ⟨b17, 0, none⟩) p.bytes.length (p.bytes.length + 1), .slice A24 R.2.1.conf.length c25, .slice A28 R.2.1.data.length c29]] := hH
      replace hH : Hp w w60 (w.cell?) [] ([.grp ([Value.slice (some ⟨b17, 0, none⟩) p.bytes.length (p.bytes.length + 1), Value.slice A24 R.2.1.conf.length c25, Value.slice A28 R.2.1.data.length c29].map (anyO 5))] ++ [.blk b14 48 [.int .i64 p.idx, .int .i64 p.term, .int .i64 p.n, .int .i64 p.many, .slice (some ⟨b17, 0, none⟩) p.bytes.length (p.bytes.length + 1)], .grp (ibxO xb3 nb2 mb4 R.1 l2), .blk b32 24 [.int .i64 R.2.1.idx, .int .i64 R.2.1.term, .slice A24 R.2.1.conf.length c25, .slice A28 R.2.1.data.length c29], .grp (rbxO b8 rv2 tv2 R.1), .row (.slice A40 R.2.1.conf.length c41) 5 1 R.2.1.conf.length (bv R.2.1.conf), .row (.slice A44 R.2.1.data.length c45) 5 1 R.2.1.data.length (bv R.2.1.data), .blk b48 24 [.int .i64 R.2.1.idx, .int .i64 R.2.1.term, .slice A40 R.2.1.conf.length c41, .slice A44 R.2.1.data.length c45], .row (.slice (some ⟨b59, 0, none⟩) 3 3) 22 1 3 [.slice (some ⟨b17, 0, none⟩) p.bytes.length (p.bytes.length + 1), .slice A24 R.2.1.conf.length c25, .slice A28 R.2.1.data.length c29]]) := hH
      refine gl_st (st_call rfl rfl rfl (by kernel_rfl) rfl (Owned_ct _ [Value.slice (some ⟨b17, 0, none⟩) p.bytes.length (p.bytes.length + 1), Value.slice A24 R.2.1.conf.length c25, Value.slice A28 R.2.1.data.length c29] _ hH.mine (off_one hH 7 rfl) (by simp)) ?_)
      rintro _ w61 ⟨rfl, hF62⟩
      replace hH := hH.turns hF62; clear hF62
      replace hH : Hp w w61 (w.cell?) [] [.blk b14 48 [.int .i64 p.idx, .int .i64 p.term, .int .i64 p.n, .int .i64 p.many, .slice (some ⟨b17, 0, none⟩) p.bytes.length (p.bytes.length + 1)], .grp (ibxO xb3 nb2 mb4 R.1 l2), .blk b32 24 [.int .i64 R.2.1.idx, .int .i64 R.2.1.term, .slice A24 R.2.1.conf.length c25, .slice A28 R.2.1.data.length c29], .grp (rbxO b8 rv2 tv2 R.1), .row (.slice A40 R.2.1.conf.length c41) 5 1 R.2.1.conf.length (bv R.2.1.conf), .row (.slice A44 R.2.1.data.length c45) 5 1 R.2.1.data.length (bv R.2.1.data), .blk b48 24 [.int .i64 R.2.1.idx, .int .i64 R.2.1.term, .slice A40 R.2.1.conf.length c41, .slice A44 R.2.1.data.length c45], .row (.slice (some ⟨b59, 0, none⟩) 3 3) 22 1 3 [.slice (some ⟨b17, 0, none⟩) p.bytes.length (p.bytes.length + 1), .slice A24 R.2.1.conf.length c25, .slice A28 R.2.1.data.length c29]] := hH
      replace hH : Hp w w61 (w.cell?) [] [.blk b14 48 [.int .i64 p.idx, .int .i64 p.term, .int .i64 p.n, .int .i64 p.many, .slice (some ⟨b17, 0, none⟩) p.bytes.length (p.bytes.length + 1)], .grp (ibxO xb3 nb2 mb4 R.1 l2), .blk b32 24 [.int .i64 R.2.1.idx, .int .i64 R.2.1.term, .slice A24 R.2.1.conf.length c25, .slice A28 R.2.1.data.length c29], .grp (rbxO b8 rv2 tv2 R.1), .row (.slice A40 R.2.1.conf.length c41) 5 1 R.2.1.conf.length (bv R.2.1.conf), .row (.slice A44 R.2.1.data.length c45) 5 1 R.2.1.data.length (bv R.2.1.data), .blk b48 24 [.int .i64 R.2.1.idx, .int .i64 R.2.1.term, .slice A40 R.2.1.conf.length c41, .slice A44 R.2.1.data.length c45], .row (.slice (some ⟨b59, 0, none⟩) 3 3) 22 1 3 [.slice (some ⟨b17, 0, none⟩) p.bytes.length (p.bytes.length + 1), .slice A24 R.2.1.conf.length c25, .slice A28 R.2.1.data.length c29]] := hH
      refine gl_ops 1 [(0, .slice Ap ps.length cp), (4, .pointer (some ⟨xb3, 0, none⟩)), (5, .pointer (some ⟨b8, 0, none⟩)), (6, .int .i64 ((i : Nat) : Int)), (9, .bool R.2.2.1), (10, errV R.2.2.2), (12, .bool R.2.2.1), (13, .int .i64 ((R.2.2.2 : Nat) : Int)), (14, .bool true), (15, .bool true), (16, .bool true)] (by kernel_rfl) ?_
      refine gl_done rfl ?_
      refine sw_next ?_
      refine sw_seq ?_
      refine sw_region ?_  -- R16 law.go:115
      refine gl_ops 1 [(0, .slice Ap ps.length cp), (4, .pointer (some ⟨xb3, 0, none⟩)), (5, .pointer (some ⟨b8, 0, none⟩)), (6, .int .i64 ((i : Nat) : Int)), (9, .bool R.2.2.1), (10, errV R.2.2.2), (12, .bool R.2.2.1), (13, .int .i64 ((R.2.2.2 : Nat) : Int)), (14, .bool true), (15, .bool true), (16, .bool true), (88, .pointer (some ⟨xb3, 0, none⟩))] (by kernel_rfl) ?_
      replace hH : Hp w w61 (w.cell?) [] [.blk b14 48 [.int .i64 p.idx, .int .i64 p.term, .int .i64 p.n, .int .i64 p.many, .slice (some ⟨b17, 0, none⟩) p.bytes.length (p.bytes.length + 1)], .grp (ibxO xb3 nb2 mb4 R.1 l2), .blk b32 24 [.int .i64 R.2.1.idx, .int .i64 R.2.1.term, .slice A24 R.2.1.conf.length c25, .slice A28 R.2.1.data.length c29], .grp (rbxO b8 rv2 tv2 R.1), .row (.slice A40 R.2.1.conf.length c41) 5 1 R.2.1.conf.length (bv R.2.1.conf), .row (.slice A44 R.2.1.data.length c45) 5 1 R.2.1.data.length (bv R.2.1.data), .blk b48 24 [.int .i64 R.2.1.idx, .int .i64 R.2.1.term, .slice A40 R.2.1.conf.length c41, .slice A44 R.2.1.data.length c45], .row (.slice (some ⟨b59, 0, none⟩) 3 3) 22 1 3 [.slice (some ⟨b17, 0, none⟩) p.bytes.length (p.bytes.length + 1), .slice A24 R.2.1.conf.length c25, .slice A28 R.2.1.data.length c29]] := hH
      replace hH := hH.pick [1, 0, 2, 3, 4, 5, 6, 7] (by kernel_rfl) (os' := [.grp (ibxO xb3 nb2 mb4 R.1 l2), .blk b14 48 [.int .i64 p.idx, .int .i64 p.term, .int .i64 p.n, .int .i64 p.many, .slice (some ⟨b17, 0, none⟩) p.bytes.length (p.bytes.length + 1)], .blk b32 24 [.int .i64 R.2.1.idx, .int .i64 R.2.1.term, .slice A24 R.2.1.conf.length c25, .slice A28 R.2.1.data.length c29], .grp (rbxO b8 rv2 tv2 R.1), .row (.slice A40 R.2.1.conf.length c41) 5 1 R.2.1.conf.length (bv R.2.1.conf), .row (.slice A44 R.2.1.data.length c45) 5 1 R.2.1.data.length (bv R.2.1.data), .blk b48 24 [.int .i64 R.2.1.idx, .int .i64 R.2.1.term, .slice A40 R.2.1.conf.length c41, .slice A44 R.2.1.data.length c45], .row (.slice (some ⟨b59, 0, none⟩) 3 3) 22 1 3 [.slice (some ⟨b17, 0, none⟩) p.bytes.length (p.bytes.length + 1), .slice A24 R.2.1.conf.length c25, .slice A28 R.2.1.data.length c29]]) (by kernel_rfl)
      replace hH : Hp w w61 (w.cell?) [] ([.grp (ibxO xb3 nb2 mb4 R.1 l2)] ++ [.blk b14 48 [.int .i64 p.idx, .int .i64 p.term, .int .i64 p.n, .int .i64 p.many, .slice (some ⟨b17, 0, none⟩) p.bytes.length (p.bytes.length + 1)], .blk b32 24 [.int .i64 R.2.1.idx, .int .i64 R.2.1.term, .slice A24 R.2.1.conf.length c25, .slice A28 R.2.1.data.length c29], .grp (rbxO b8 rv2 tv2 R.1), .row (.slice A40 R.2.1.conf.length c41) 5 1 R.2.1.conf.length (bv R.2.1.conf), .row (.slice A44 R.2.1.data.length c45) 5 1 R.2.1.data.length (bv R.2.1.data), .blk b48 24 [.int .i64 R.2.1.idx, .int .i64 R.2.1.term, .slice A40 R.2.1.conf.length c41, .slice A44 R.2.1.data.length c45], .row (.slice (some ⟨b59, 0, none⟩) 3 3) 22 1 3 [.slice (some ⟨b17, 0, none⟩) p.bytes.length (p.bytes.length + 1), .slice A24 R.2.1.conf.length c25, .slice A28 R.2.1.data.length c29]]) := hH
      refine gl_st (st_call rfl rfl rfl (by kernel_rfl) rfl (Want_ct _ _ _ R.1 _ _ hH.mine hf) ?_)
      rintro _ w63 ⟨rfl, hF64⟩
      replace hH := hH.turns hF64; clear hF64
      replace hH : Hp w w63 (w.cell?) [] [.blk b14 48 [.int .i64 p.idx, .int .i64 p.term, .int .i64 p.n, .int .i64 p.many, .slice (some ⟨b17, 0, none⟩) p.bytes.length (p.bytes.length + 1)], .blk b32 24 [.int .i64 R.2.1.idx, .int .i64 R.2.1.term, .slice A24 R.2.1.conf.length c25, .slice A28 R.2.1.data.length c29], .grp (rbxO b8 rv2 tv2 R.1), .row (.slice A40 R.2.1.conf.length c41) 5 1 R.2.1.conf.length (bv R.2.1.conf), .row (.slice A44 R.2.1.data.length c45) 5 1 R.2.1.data.length (bv R.2.1.data), .blk b48 24 [.int .i64 R.2.1.idx, .int .i64 R.2.1.term, .slice A40 R.2.1.conf.length c41, .slice A44 R.2.1.data.length c45], .row (.slice (some ⟨b59, 0, none⟩) 3 3) 22 1 3 [.slice (some ⟨b17, 0, none⟩) p.bytes.length (p.bytes.length + 1), .slice A24 R.2.1.conf.length c25, .slice A28 R.2.1.data.length c29], .grp (ibxO xb3 nb2 mb4 R.1 l2)] := hH
      replace hH : Hp w w63 (w.cell?) [] [.blk b14 48 [.int .i64 p.idx, .int .i64 p.term, .int .i64 p.n, .int .i64 p.many, .slice (some ⟨b17, 0, none⟩) p.bytes.length (p.bytes.length + 1)], .blk b32 24 [.int .i64 R.2.1.idx, .int .i64 R.2.1.term, .slice A24 R.2.1.conf.length c25, .slice A28 R.2.1.data.length c29], .grp (rbxO b8 rv2 tv2 R.1), .row (.slice A40 R.2.1.conf.length c41) 5 1 R.2.1.conf.length (bv R.2.1.conf), .row (.slice A44 R.2.1.data.length c45) 5 1 R.2.1.data.length (bv R.2.1.data), .blk b48 24 [.int .i64 R.2.1.idx, .int .i64 R.2.1.term, .slice A40 R.2.1.conf.length c41, .slice A44 R.2.1.data.length c45], .row (.slice (some ⟨b59, 0, none⟩) 3 3) 22 1 3 [.slice (some ⟨b17, 0, none⟩) p.bytes.length (p.bytes.length + 1), .slice A24 R.2.1.conf.length c25, .slice A28 R.2.1.data.length c29], .grp (ibxO xb3 nb2 mb4 R.1 l2)] := hH
      refine gl_ops 7 [(0, .slice Ap ps.length cp), (4, .pointer (some ⟨xb3, 0, none⟩)), (5, .pointer (some ⟨b8, 0, none⟩)), (6, .int .i64 ((i : Nat) : Int)), (9, .bool R.2.2.1), (10, errV R.2.2.2), (12, .bool R.2.2.1), (13, .int .i64 ((R.2.2.2 : Nat) : Int)), (14, .bool true), (15, .bool true), (16, .bool true), (17, .int .i64 ((wantI R.1).1)), (18, .int .i64 ((wantI R.1).2.1)), (19, .int .i64 ((wantI R.1).2.2))] (by kernel_rfl) ?_
      refine gl_done rfl ?_
      refine sw_next ?_
      refine sw_seq ?_
      refine sw_region ?_  -- R17 law.go:116
      refine gl_ops 1 [(0, .slice Ap ps.length cp), (4, .pointer (some ⟨xb3, 0, none⟩)), (5, .pointer (some ⟨b8, 0, none⟩)), (6, .int .i64 ((i : Nat) : Int)), (9, .bool R.2.2.1), (10, errV R.2.2.2), (12, .bool R.2.2.1), (13, .int .i64 ((R.2.2.2 : Nat) : Int)), (14, .bool true), (15, .bool true), (16, .bool true), (17, .int .i64 ((wantI R.1).1)), (18, .int .i64 ((wantI R.1).2.1)), (19, .int .i64 ((wantI R.1).2.2)), (94, .pointer (some ⟨b8, 0, none⟩))] (by kernel_rfl) ?_
      replace hH : Hp w w63 (w.cell?) [] [.blk b14 48 [.int .i64 p.idx, .int .i64 p.term, .int .i64 p.n, .int .i64 p.many, .slice (some ⟨b17, 0, none⟩) p.bytes.length (p.bytes.length + 1)], .blk b32 24 [.int .i64 R.2.1.idx, .int .i64 R.2.1.term, .slice A24 R.2.1.conf.length c25, .slice A28 R.2.1.data.length c29], .grp (rbxO b8 rv2 tv2 R.1), .row (.slice A40 R.2.1.conf.length c41) 5 1 R.2.1.conf.length (bv R.2.1.conf), .row (.slice A44 R.2.1.data.length c45) 5 1 R.2.1.data.length (bv R.2.1.data), .blk b48 24 [.int .i64 R.2.1.idx, .int .i64 R.2.1.term, .slice A40 R.2.1.conf.length c41, .slice A44 R.2.1.data.length c45], .row (.slice (some ⟨b59, 0, none⟩) 3 3) 22 1 3 [.slice (some ⟨b17, 0, none⟩) p.bytes.length (p.bytes.length + 1), .slice A24 R.2.1.conf.length c25, .slice A28 R.2.1.data.length c29], .grp (ibxO xb3 nb2 mb4 R.1 l2)] := hH
      replace hH := hH.pick [2, 0, 1, 3, 4, 5, 6, 7] (by kernel_rfl) (os' := [.grp (rbxO b8 rv2 tv2 R.1), .blk b14 48 [.int .i64 p.idx, .int .i64 p.term, .int .i64 p.n, .int .i64 p.many, .slice (some ⟨b17, 0, none⟩) p.bytes.length (p.bytes.length + 1)], .blk b32 24 [.int .i64 R.2.1.idx, .int .i64 R.2.1.term, .slice A24 R.2.1.conf.length c25, .slice A28 R.2.1.data.length c29], .row (.slice A40 R.2.1.conf.length c41) 5 1 R.2.1.conf.length (bv R.2.1.conf), .row (.slice A44 R.2.1.data.length c45) 5 1 R.2.1.data.length (bv R.2.1.data), .blk b48 24 [.int .i64 R.2.1.idx, .int .i64 R.2.1.term, .slice A40 R.2.1.conf.length c41, .slice A44 R.2.1.data.length c45], .row (.slice (some ⟨b59, 0, none⟩) 3 3) 22 1 3 [.slice (some ⟨b17, 0, none⟩) p.bytes.length (p.bytes.length + 1), .slice A24 R.2.1.conf.length c25, .slice A28 R.2.1.data.length c29], .grp (ibxO xb3 nb2 mb4 R.1 l2)]) (by kernel_rfl)
      replace hH : Hp w w63 (w.cell?) [] ([.grp (rbxO b8 rv2 tv2 R.1)] ++ [.blk b14 48 [.int .i64 p.idx, .int .i64 p.term, .int .i64 p.n, .int .i64 p.many, .slice (some ⟨b17, 0, none⟩) p.bytes.length (p.bytes.length + 1)], .blk b32 24 [.int .i64 R.2.1.idx, .int .i64 R.2.1.term, .slice A24 R.2.1.conf.length c25, .slice A28 R.2.1.data.length c29], .row (.slice A40 R.2.1.conf.length c41) 5 1 R.2.1.conf.length (bv R.2.1.conf), .row (.slice A44 R.2.1.data.length c45) 5 1 R.2.1.data.length (bv R.2.1.data), .blk b48 24 [.int .i64 R.2.1.idx, .int .i64 R.2.1.term, .slice A40 R.2.1.conf.length c41, .slice A44 R.2.1.data.length c45], .row (.slice (some ⟨b59, 0, none⟩) 3 3) 22 1 3 [.slice (some ⟨b17, 0, none⟩) p.bytes.length (p.bytes.length + 1), .slice A24 R.2.1.conf.length c25, .slice A28 R.2.1.data.length c29], .grp (ibxO xb3 nb2 mb4 R.1 l2)]) := hH
      refine gl_st (st_call rfl rfl rfl (by kernel_rfl) rfl (RWant_ct _ _ _ R.1 _ _ hH.mine hf) ?_)
      rintro _ w65 ⟨rfl, hF66⟩
      replace hH := hH.turns hF66; clear hF66
      replace hH : Hp w w65 (w.cell?) [] [.blk b14 48 [.int .i64 p.idx, .int .i64 p.term, .int .i64 p.n, .int .i64 p.many, .slice (some ⟨b17, 0, none⟩) p.bytes.length (p.bytes.length + 1)], .blk b32 24 [.int .i64 R.2.1.idx, .int .i64 R.2.1.term, .slice A24 R.2.1.conf.length c25, .slice A28 R.2.1.data.length c29], .row (.slice A40 R.2.1.conf.length c41) 5 1 R.2.1.conf.length (bv R.2.1.conf), .row (.slice A44 R.2.1.data.length c45) 5 1 R.2.1.data.length (bv R.2.1.data), .blk b48 24 [.int .i64 R.2.1.idx, .int .i64 R.2.1.term, .slice A40 R.2.1.conf.length c41, .slice A44 R.2.1.data.length c45], .row (.slice (some ⟨b59, 0, none⟩) 3 3) 22 1 3 [.slice (some ⟨b17, 0, none⟩) p.bytes.length (p.bytes.length + 1), .slice A24 R.2.1.conf.length c25, .slice A28 R.2.1.data.length c29], .grp (ibxO xb3 nb2 mb4 R.1 l2), .grp (rbxO b8 rv2 tv2 R.1)] := hH
      replace hH : Hp w w65 (w.cell?) [] [.blk b14 48 [.int .i64 p.idx, .int .i64 p.term, .int .i64 p.n, .int .i64 p.many, .slice (some ⟨b17, 0, none⟩) p.bytes.length (p.bytes.length + 1)], .blk b32 24 [.int .i64 R.2.1.idx, .int .i64 R.2.1.term, .slice A24 R.2.1.conf.length c25, .slice A28 R.2.1.data.length c29], .row (.slice A40 R.2.1.conf.length c41) 5 1 R.2.1.conf.length (bv R.2.1.conf), .row (.slice A44 R.2.1.data.length c45) 5 1 R.2.1.data.length (bv R.2.1.data), .blk b48 24 [.int .i64 R.2.1.idx, .int .i64 R.2.1.term, .slice A40 R.2.1.conf.length c41, .slice A44 R.2.1.data.length c45], .row (.slice (some ⟨b59, 0, none⟩) 3 3) 22 1 3 [.slice (some ⟨b17, 0, none⟩) p.bytes.length (p.bytes.length + 1), .slice A24 R.2.1.conf.length c25, .slice A28 R.2.1.data.length c29], .grp (ibxO xb3 nb2 mb4 R.1 l2), .grp (rbxO b8 rv2 tv2 R.1)] := hH
      refine gl_ops 7 [(0, .slice Ap ps.length cp), (4, .pointer (some ⟨xb3, 0, none⟩)), (5, .pointer (some ⟨b8, 0, none⟩)), (6, .int .i64 ((i : Nat) : Int)), (9, .bool R.2.2.1), (10, errV R.2.2.2), (12, .bool R.2.2.1), (13, .int .i64 ((R.2.2.2 : Nat) : Int)), (14, .bool true), (15, .bool true), (16, .bool true), (17, .int .i64 ((wantI R.1).1)), (18, .int .i64 ((wantI R.1).2.1)), (19, .int .i64 ((wantI R.1).2.2)), (20, .int .i64 ((wantI R.1).1)), (21, .int .i64 ((wantI R.1).2.1)), (22, .int .i64 ((wantI R.1).2.2))] (by kernel_rfl) ?_
      refine gl_done rfl ?_
      refine sw_next ?_
      refine sw_seq ?_
      refine sw_region ?_  -- R18 law.go:117
      refine gl_ops 14 [(0, .slice Ap ps.length cp), (4, .pointer (some ⟨xb3, 0, none⟩)), (5, .pointer (some ⟨b8, 0, none⟩)), (6, .int .i64 ((i : Nat) : Int)), (10, errV R.2.2.2), (13, .int .i64 ((R.2.2.2 : Nat) : Int)), (17, .int .i64 ((wantI R.1).1)), (18, .int .i64 ((wantI R.1).2.1)), (19, .int .i64 ((wantI R.1).2.2)), (20, .int .i64 ((wantI R.1).1)), (21, .int .i64 ((wantI R.1).2.1)), (22, .int .i64 ((wantI R.1).2.2)), (109, .bool false), (112, .bool (R.2.2.1 != R.2.2.1))] (by kernel_rfl) ?_
      refine gl_cv 112 (.bool false) (by rw [bne_self_eq_false]) rfl ?_
      refine gl_ops 3 [(0, .slice Ap ps.length cp), (4, .pointer (some ⟨xb3, 0, none⟩)), (5, .pointer (some ⟨b8, 0, none⟩)), (6, .int .i64 ((i : Nat) : Int)), (13, .int .i64 ((R.2.2.2 : Nat) : Int)), (17, .int .i64 ((wantI R.1).1)), (18, .int .i64 ((wantI R.1).2.1)), (19, .int .i64 ((wantI R.1).2.2)), (20, .int .i64 ((wantI R.1).1)), (21, .int .i64 ((wantI R.1).2.1)), (22, .int .i64 ((wantI R.1).2.2)), (114, .bool false), (115, errV R.2.2.2)] (by kernel_rfl) ?_
      refine gl_st (st_call rfl rfl rfl (by kernel_rfl) rfl (Code_ct R.2.2.2 _ (hH.zin _ _ hG)) ?_)
      rintro _ w67 ⟨rfl, hF68⟩
      replace hH := hH.call hF68; clear hF68
      replace hH : Hp w w67 (w.cell?) [] [.blk b14 48 [.int .i64 p.idx, .int .i64 p.term, .int .i64 p.n, .int .i64 p.many, .slice (some ⟨b17, 0, none⟩) p.bytes.length (p.bytes.length + 1)], .blk b32 24 [.int .i64 R.2.1.idx, .int .i64 R.2.1.term, .slice A24 R.2.1.conf.length c25, .slice A28 R.2.1.data.length c29], .row (.slice A40 R.2.1.conf.length c41) 5 1 R.2.1.conf.length (bv R.2.1.conf), .row (.slice A44 R.2.1.data.length c45) 5 1 R.2.1.data.length (bv R.2.1.data), .blk b48 24 [.int .i64 R.2.1.idx, .int .i64 R.2.1.term, .slice A40 R.2.1.conf.length c41, .slice A44 R.2.1.data.length c45], .row (.slice (some ⟨b59, 0, none⟩) 3 3) 22 1 3 [.slice (some ⟨b17, 0, none⟩) p.bytes.length (p.bytes.length + 1), .slice A24 R.2.1.conf.length c25, .slice A28 R.2.1.data.length c29], .grp (ibxO xb3 nb2 mb4 R.1 l2), .grp (rbxO b8 rv2 tv2 R.1)] := hH
      refine gl_ops 2 [(0, .slice Ap ps.length cp), (4, .pointer (some ⟨xb3, 0, none⟩)), (5, .pointer (some ⟨b8, 0, none⟩)), (6, .int .i64 ((i : Nat) : Int)), (17, .int .i64 ((wantI R.1).1)), (18, .int .i64 ((wantI R.1).2.1)), (19, .int .i64 ((wantI R.1).2.2)), (20, .int .i64 ((wantI R.1).1)), (21, .int .i64 ((wantI R.1).2.1)), (22, .int .i64 ((wantI R.1).2.2)), (114, .bool false), (118, .bool (((R.2.2.2 : Nat) : Int) != ((R.2.2.2 : Nat) : Int)))] (by kernel_rfl) ?_
      refine gl_cv 118 (.bool false) (by rw [bne_self_eq_false]) rfl ?_
      refine gl_ops 5 [(0, .slice Ap ps.length cp), (4, .pointer (some ⟨xb3, 0, none⟩)), (5, .pointer (some ⟨b8, 0, none⟩)), (6, .int .i64 ((i : Nat) : Int)), (18, .int .i64 ((wantI R.1).2.1)), (19, .int .i64 ((wantI R.1).2.2)), (21, .int .i64 ((wantI R.1).2.1)), (22, .int .i64 ((wantI R.1).2.2)), (120, .bool false), (123, .bool (((wantI R.1).1) != ((wantI R.1).1)))] (by kernel_rfl) ?_
      refine gl_cv 123 (.bool false) (by rw [bne_self_eq_false]) rfl ?_
      refine gl_ops 5 [(0, .slice Ap ps.length cp), (4, .pointer (some ⟨xb3, 0, none⟩)), (5, .pointer (some ⟨b8, 0, none⟩)), (6, .int .i64 ((i : Nat) : Int)), (19, .int .i64 ((wantI R.1).2.2)), (22, .int .i64 ((wantI R.1).2.2)), (125, .bool false), (128, .bool (((wantI R.1).2.1) != ((wantI R.1).2.1)))] (by kernel_rfl) ?_
      refine gl_cv 128 (.bool false) (by rw [bne_self_eq_false]) rfl ?_
      refine gl_ops 5 [(0, .slice Ap ps.length cp), (4, .pointer (some ⟨xb3, 0, none⟩)), (5, .pointer (some ⟨b8, 0, none⟩)), (6, .int .i64 ((i : Nat) : Int)), (130, .bool false), (133, .bool (((wantI R.1).2.2) != ((wantI R.1).2.2)))] (by kernel_rfl) ?_
      refine gl_cv 133 (.bool false) (by rw [bne_self_eq_false]) rfl ?_
      refine gl_ops 1 [(0, .slice Ap ps.length cp), (4, .pointer (some ⟨xb3, 0, none⟩)), (5, .pointer (some ⟨b8, 0, none⟩)), (6, .int .i64 ((i : Nat) : Int)), (134, .bool false)] (by kernel_rfl) ?_
      refine gl_done rfl ?_
      refine sw_next ?_
      refine sw_false rfl rfl ?_
      refine sw_skip ?_
      refine bkN ?_
      refine sw_next ?_
      refine sw_region ?_  -- R8 law.go:107
      refine gl_ops 2 [(0, .slice Ap ps.length cp), (4, .pointer (some ⟨xb3, 0, none⟩)), (5, .pointer (some ⟨b8, 0, none⟩)), (42, .int .i64 (IntKind.i64.wrap (((i : Nat) : Int) + 1)))] (by kernel_rfl) ?_
      refine gl_cv 42 (.int .i64 ((i + 1 : Nat) : Int)) (cv_i64 (by omega)) rfl ?_
      refine gl_ops 1 [(0, .slice Ap ps.length cp), (4, .pointer (some ⟨xb3, 0, none⟩)), (5, .pointer (some ⟨b8, 0, none⟩)), (6, .int .i64 ((i + 1 : Nat) : Int))] (by kernel_rfl) ?_
      refine gl_done rfl ?_
      refine rnd_end (g := (i, S, nb, l, rv, tv)) (i + 1, R.1, nb2, l2, rv2, tv2) (by kernel_rfl) ?_ ?_
      replace hH : Hp w w67 (w.cell?) [] [.blk b14 48 [.int .i64 p.idx, .int .i64 p.term, .int .i64 p.n, .int .i64 p.many, .slice (some ⟨b17, 0, none⟩) p.bytes.length (p.bytes.length + 1)], .blk b32 24 [.int .i64 R.2.1.idx, .int .i64 R.2.1.term, .slice A24 R.2.1.conf.length c25, .slice A28 R.2.1.data.length c29], .row (.slice A40 R.2.1.conf.length c41) 5 1 R.2.1.conf.length (bv R.2.1.conf), .row (.slice A44 R.2.1.data.length c45) 5 1 R.2.1.data.length (bv R.2.1.data), .blk b48 24 [.int .i64 R.2.1.idx, .int .i64 R.2.1.term, .slice A40 R.2.1.conf.length c41, .slice A44 R.2.1.data.length c45], .row (.slice (some ⟨b59, 0, none⟩) 3 3) 22 1 3 [.slice (some ⟨b17, 0, none⟩) p.bytes.length (p.bytes.length + 1), .slice A24 R.2.1.conf.length c25, .slice A28 R.2.1.data.length c29], .grp (ibxO xb3 nb2 mb4 R.1 l2), .grp (rbxO b8 rv2 tv2 R.1)] := hH
      replace hH := hH.pick [6, 7, 0, 1, 2, 3, 4, 5] (by kernel_rfl) (os' := [.grp (ibxO xb3 nb2 mb4 R.1 l2), .grp (rbxO b8 rv2 tv2 R.1), .blk b14 48 [.int .i64 p.idx, .int .i64 p.term, .int .i64 p.n, .int .i64 p.many, .slice (some ⟨b17, 0, none⟩) p.bytes.length (p.bytes.length + 1)], .blk b32 24 [.int .i64 R.2.1.idx, .int .i64 R.2.1.term, .slice A24 R.2.1.conf.length c25, .slice A28 R.2.1.data.length c29], .row (.slice A40 R.2.1.conf.length c41) 5 1 R.2.1.conf.length (bv R.2.1.conf), .row (.slice A44 R.2.1.data.length c45) 5 1 R.2.1.data.length (bv R.2.1.data), .blk b48 24 [.int .i64 R.2.1.idx, .int .i64 R.2.1.term, .slice A40 R.2.1.conf.length c41, .slice A44 R.2.1.data.length c45], .row (.slice (some ⟨b59, 0, none⟩) 3 3) 22 1 3 [.slice (some ⟨b17, 0, none⟩) p.bytes.length (p.bytes.length + 1), .slice A24 R.2.1.conf.length c25, .slice A28 R.2.1.data.length c29]]) (by kernel_rfl)
      replace hH := (hH.sublist (.cons_cons _ (.cons_cons _ (List.nil_sublist _))))
      replace hH : Hp w w67 (w.cell?) [] [.grp (ibxO xb3 nb2 mb4 R.1 l2), .grp (rbxO b8 rv2 tv2 R.1)] := hH
      · exact ⟨by omega, hf, by rw [hR]; exact keyed_put hK p nv, hH⟩
      · show ps.length - (i + 1) < ps.length - i; omega
    try simp only [decide_eq_false_iff_not, beq_eq_false_iff_ne, bne_eq_false_iff_eq, ne_eq, Decidable.not_not, Int.not_lt, Int.not_le, Bool.not_eq_false', beq_iff_eq, bne_iff_ne, decide_eq_true_eq] at hc3
    refine sw_exit ?_
    refine thX ?_
    refine thX ?_
    refine bkH ?_
    refine sw_next ?_
    refine sw_seq ?_
    refine sw_region ?_  -- R20 law.go:121
    refine gl_ops 1 [(2, .bool true)] (by kernel_rfl) ?_
    refine gl_done rfl ?_
    refine sw_next ?_
    refine sw_ret ?_
    refine ret1 rfl rfl  ?_
    exact ⟨rfl, (hH.sublist (List.nil_sublist _)).fresh⟩
  try simp only [decide_eq_false_iff_not, beq_eq_false_iff_ne, bne_eq_false_iff_eq, ne_eq, Decidable.not_not, Int.not_lt, Int.not_le, Bool.not_eq_false', beq_iff_eq, bne_iff_ne, decide_eq_true_eq] at hg2
  refine gl_ops 3 [(0, .slice Ap ps.length cp), (4, .pointer (some ⟨xb3, 0, none⟩)), (5, .pointer (some ⟨b8, 0, none⟩)), (6, .int .i64 ((i : Nat) : Int)), (40, .bool false)] (by kernel_rfl) ?_
  refine gl_done rfl ?_
  refine sw_next ?_
  refine sw_false rfl rfl ?_
  refine sw_exit ?_
  refine thX ?_
  refine thX ?_
  refine bkH ?_
  refine sw_next ?_
  refine sw_seq ?_
  refine sw_region ?_  -- R20 law.go:121
  refine gl_ops 1 [(2, .bool true)] (by kernel_rfl) ?_
  refine gl_done rfl ?_
  refine sw_next ?_
  refine sw_ret ?_
  refine ret1 rfl rfl  ?_
  exact ⟨rfl, (hH.sublist (List.nil_sublist _)).fresh⟩
end Go.Proofs.YtjcchjgkkplamaaDoor
