/- Layer 18 (disk), the program's: the acts' own functions (closures), the acts; what they answer. -/
import Derived.Test.YtjcchjgkkplamaaDoorDisk0
set_option maxRecDepth 100000
set_option maxHeartbeats 2000000
set_option linter.unusedVariables false
set_option linter.unusedSimpArgs false
namespace Go.Proofs.YtjcchjgkkplamaaDoor
open Go.RowKit Go.SW
abbrev f1O (e : PE) : Own := .blk e.fb 138 [e.v, .int .i64 ((e.sure : Nat) : Int)]
abbrev f2O (e : PE) : Own := .vw e.v 5 e.b
abbrev restO (es : List PE) (i : Nat) : Own := .grp ((es.map fun e => Own.grp (filO e)).eraseIdx i)
section
variable {w w0 : World} {z : Zone} {F : List Nat} {r : List Own}
theorem fil_out {es : List PE} {i : Nat} {e : PE} (he : es[i]? = some e) (h : Hp w0 w z F (filsO es :: r)) : Hp w0 w z F (f1O e :: f2O e :: restO es i :: r) := by
  have h1 := Hp.out (l := es.map fun e => Own.grp (filO e)) h i (o := .grp (filO e)) (by rw [List.getElem?_map, he]; rfl)
  exact h1.open_
theorem fil_in {es : List PE} {i : Nat} {e : PE} (hi : i < es.length) (h : Hp w0 w z F (f1O e :: f2O e :: restO es i :: r)) : Hp w0 w z F (filsO (es.set i e) :: r) := by
  have h0 : Hp w0 w z F (filO e ++ (restO es i :: r)) := h
  have h1 := Hp.into (l := es.map fun e => Own.grp (filO e)) (i := i) (by simpa using hi) h0.close
  refine h1.cast ?_
  unfold filsO
  rw [List.map_set]
theorem fil_del {es : List PE} {i : Nat} (hi : i < es.length) (h : Hp w0 w z F (filsO es :: r)) : Hp w0 w z F (filsO (es.eraseIdx i) :: r) := by
  have h1 := Hp.out (l := es.map fun e => Own.grp (filO e)) h i (o := .grp (filO es[i])) (by rw [List.getElem?_map, List.getElem?_eq_getElem hi]; rfl)
  have h2 := h1.sublist (List.sublist_cons_self _ _)
  refine h2.cast ?_
  unfold filsO
  rw [map_eraseIdx]
theorem fil_add {es : List PE} {e : PE} (h : Hp w0 w z F (f1O e :: f2O e :: filsO es :: r)) : Hp w0 w z F (filsO (es ++ [e]) :: r) := by
  have h0 : Hp w0 w z F (filO e ++ (filsO es :: r)) := h
  have h1 := (h0.close.perm (List.Perm.swap _ _ _)).merge
  refine h1.cast ?_
  unfold filsO
  rw [List.map_append]; rfl
theorem fil_put {es : List PE} {e : PE} (h : Hp w0 w z F (f1O e :: f2O e :: filsO es :: r)) : Hp w0 w z F (filsO (putE es e) :: r) := by
  unfold putE
  split
  · rename_i hi
    have h1 : Hp w0 w z F ([f1O e, f2O e] ++ (filsO es :: r)) := h
    have h2 : Hp w0 w z F (filsO es :: (r ++ [f1O e, f2O e])) := h1.perm List.perm_append_comm
    obtain ⟨e0, h0⟩ : ∃ e0, es[ixE es e.name]? = some e0 := ⟨_, List.getElem?_eq_getElem hi⟩
    have h3 := (fil_out h0 h2).sublist ((List.sublist_cons_self _ _).trans (List.sublist_cons_self _ _))
    have h4 : Hp w0 w z F ((restO es (ixE es e.name) :: r) ++ [f1O e, f2O e]) := h3
    exact fil_in hi (h4.perm List.perm_append_comm)
  · exact fil_add h
end

theorem SyncDo_ct (tb : Nat) (es : List PE) (i : Nat) (nm : List UInt8) (fb : Nat) (fv : Value) (b : List UInt8) (sr : Nat) (he : es[i]? = some ⟨nm, fb, fv, b, sr⟩) (h : Own) (w : World) (hM : Mine w [h, .grp [.blk tb 136 [.pointer (some ⟨fb, 0, none⟩)], filsO es]]) :
    Fun Tryd.prog 94 [.pointer (some ⟨tb, 0, none⟩)] w fun v w' => ∃ u : Unit, v = .tuple #[] ∧ Turn w w' [h, .grp [.blk tb 136 [.pointer (some ⟨fb, 0, none⟩)], filsO es]] [h, .grp [.blk tb 136 [.pointer (some ⟨fb, 0, none⟩)], filsO (es.set i ⟨nm, fb, fv, b, b.length⟩)]] := by
  refine fun_of_sw Tryd.func94 rfl 9 rfl rfl ?_
  have hH : Hp w w (off w (blksOf [h, .grp [.blk tb 136 [.pointer (some ⟨fb, 0, none⟩)], filsO es]])) (blksOf [h, .grp [.blk tb 136 [.pointer (some ⟨fb, 0, none⟩)], filsO es]]) ([.blk tb 136 [.pointer (some ⟨fb, 0, none⟩)], filsO es] ++ [h]) := ((Hp.start_mine hM).pick [1, 0] (by kernel_rfl) rfl).open_
  replace hH : Hp w w _ _ [.blk tb 136 [.pointer (some ⟨fb, 0, none⟩)], filsO es, h] := hH
  replace hH : Hp w w _ _ [.blk tb 136 [.pointer (some ⟨fb, 0, none⟩)], filsO es, h] := hH
  replace hH := hH.pick [1, 0, 2] (by kernel_rfl) (os' := [filsO es, .blk tb 136 [.pointer (some ⟨fb, 0, none⟩)], h]) (by kernel_rfl)
  replace hH := fil_out he hH
  replace hH : Hp w w _ _ [.blk fb 138 [fv, .int .i64 ((sr : Nat) : Int)], .vw fv 5 b, restO es i, .blk tb 136 [.pointer (some ⟨fb, 0, none⟩)], h] := hH
  obtain ⟨Af, cf, hv, hv1, hv2⟩ := hH.vw_form 1 rfl
  subst hv
  refine sw_draw (by kernel_rfl) (fun w_ => Hp w w_ (off w (blksOf [h, .grp [.blk tb 136 [.pointer (some ⟨fb, 0, none⟩)], filsO es]])) (blksOf [h, .grp [.blk tb 136 [.pointer (some ⟨fb, 0, none⟩)], filsO es]]) [.vw (.slice Af b.length cf) 5 b, restO es i, .blk tb 136 [.pointer (some ⟨fb, 0, none⟩)], h]) ?_  -- R0 disk.go:100
  replace hH := hH.drew
  generalize { w with drawn := w.drawn + 1 } = w1 at hH ⊢
  have hS9 := hH.sublist (.cons _ (.cons_cons _ (.cons_cons _ (.cons_cons _ (.cons_cons _ (List.nil_sublist _))))))
  refine gd_q 0 rfl (by kernel_rfl) PQ.body hS9 rfl rfl (fun w_ hS => (rd_loadK 2 (by kernel_rfl) hS rfl rfl rfl)) ?_
  refine gd_q 1 rfl (by kernel_rfl) PQ.body hS9 rfl rfl (fun w_ hS => (rd_loadK 2 (by kernel_rfl) hS rfl rfl rfl)) ?_
  refine gd_pure 2 rfl (by kernel_rfl) PQ.body hS9 rfl rfl (.pointer (some ⟨fb, 0, none⟩)) (by kernel_rfl) ?_
  refine gd_keep [(1, .pointer (some ⟨fb, 0, none⟩)), (3, .pointer (some ⟨fb, 0, none⟩))] (by kernel_rfl) ?_
  refine gd_pure 3 rfl (by kernel_rfl) PQ.body hS9 rfl rfl (.pointer (some ⟨fb, 0, none⟩)) (by kernel_rfl) ?_
  refine gd_st 4 (by kernel_rfl) (st_q rfl rfl rfl (rd_loadK 0 (by kernel_rfl) hH rfl rfl rfl) ?_)
  refine ⟨hS9, ?_⟩
  refine gd_keep [(1, .pointer (some ⟨fb, 0, none⟩)), (5, .slice Af b.length cf)] (by kernel_rfl) ?_
  refine gd_q 5 rfl (by kernel_rfl) PQ.body hS9 rfl rfl (fun w_ hS => (rd_len (e := 5) (by kernel_rfl) rfl)) ?_
  refine gd_pure 6 rfl (by kernel_rfl) PQ.body hS9 rfl rfl (.pointer (some ⟨fb, 0, none⟩)) (by kernel_rfl) ?_
  refine gd_pure 7 rfl (by kernel_rfl) PQ.body hS9 rfl rfl (.pointer (some ⟨fb, 1, none⟩)) (by kernel_rfl) ?_
  refine gd_keep [(6, .int .i64 ((b.length : Nat) : Int)), (8, .pointer (some ⟨fb, 1, none⟩))] (by kernel_rfl) ?_
  refine gd_st 8 (by kernel_rfl) (st_storeK (v := .int .i64 ((b.length : Nat) : Int)) 0 rfl rfl rfl hH rfl rfl rfl (by kernel_rfl) rfl (by simp) ?_)
  clear hH; intro w2 hH
  replace hS9 := hH.sublist (.cons _ (.cons_cons _ (.cons_cons _ (.cons_cons _ (.cons_cons _ (List.nil_sublist _))))))
  refine ⟨hS9, ?_⟩
  refine gd_keep [] (by kernel_rfl) ?_
  refine gd_done (by kernel_rfl) ?_
  refine at_sub [] (Sub.of_eq (by kernel_rfl)) ?_
  refine end0 rfl ?_
  replace hH : Hp w w2 _ _ (f1O ⟨nm, fb, .slice Af b.length cf, b, b.length⟩ :: f2O ⟨nm, fb, .slice Af b.length cf, b, b.length⟩ :: restO es i :: [.blk tb 136 [.pointer (some ⟨fb, 0, none⟩)], h]) := hH
  replace hH := fil_in (List.getElem?_eq_some_iff.1 he).1 hH
  replace hH : Hp w w2 _ _ [filsO (es.set i ⟨nm, fb, .slice Af b.length cf, b, b.length⟩), .blk tb 136 [.pointer (some ⟨fb, 0, none⟩)], h] := hH
  replace hH := hH.pick [1, 0, 2] (by kernel_rfl) (os' := [.blk tb 136 [.pointer (some ⟨fb, 0, none⟩)], filsO (es.set i ⟨nm, fb, .slice Af b.length cf, b, b.length⟩), h]) (by kernel_rfl)
  replace hH := (hH.sublist (.cons_cons _ (.cons_cons _ (.cons_cons _ (List.nil_sublist _)))))
  replace hH : Hp w w2 _ _ [.blk tb 136 [.pointer (some ⟨fb, 0, none⟩)], filsO (es.set i ⟨nm, fb, .slice Af b.length cf, b, b.length⟩), h] := hH
  have h2 : Hp w w2 _ _ ([.blk tb 136 [.pointer (some ⟨fb, 0, none⟩)], filsO (es.set i ⟨nm, fb, .slice Af b.length cf, b, b.length⟩)] ++ [h]) := hH
  exact ⟨(), rfl, (h2.close.pick [1, 0] (by kernel_rfl) rfl).turned⟩
theorem PutDo_ct (pb qb nb db mb : Nat) (pw : Bool) (av vp : Value) (es : List PE) (nm p : List UInt8) (Zp : Zone) (w : World) (hM : Mine w [.blk db 128 [.map (some mb), .bool pw, av], .grp [.blk pb 22 [vp], .blk qb 71 [.pointer (some ⟨db, 0, none⟩)], .blk nb 9 [.string (bs nm)], .smap mb (kvE es), filsO es]]) (hp : RB Zp vp p) (hZ : Zp.le (off w (blksOf [.blk db 128 [.map (some mb), .bool pw, av], .grp [.blk pb 22 [vp], .blk qb 71 [.pointer (some ⟨db, 0, none⟩)], .blk nb 9 [.string (bs nm)], .smap mb (kvE es), filsO es]]))) (hpl : p.length ≤ 1048576) :
    Fun Tryd.prog 77 [.pointer (some ⟨pb, 0, none⟩), .pointer (some ⟨qb, 0, none⟩), .pointer (some ⟨nb, 0, none⟩)] w fun v w' => ∃ u : Nat × Value, v = .tuple #[] ∧ Turn w w' [.blk db 128 [.map (some mb), .bool pw, av], .grp [.blk pb 22 [vp], .blk qb 71 [.pointer (some ⟨db, 0, none⟩)], .blk nb 9 [.string (bs nm)], .smap mb (kvE es), filsO es]] [.blk db 128 [.map (some mb), .bool pw, av], .grp [.blk pb 22 [vp], .blk qb 71 [.pointer (some ⟨db, 0, none⟩)], .blk nb 9 [.string (bs nm)], .smap mb (kvE (putE es ⟨nm, u.1, u.2, p, p.length⟩)), filsO (putE es ⟨nm, u.1, u.2, p, p.length⟩)]] := by
  have hpz := hp.mono hZ
  obtain ⟨Ap, cp, rfl, hp1, hp2⟩ := hp.row.form
  refine fun_of_sw Tryd.func77 rfl 14 rfl rfl ?_
  have hH : Hp w w (off w (blksOf [.blk db 128 [.map (some mb), .bool pw, av], .grp [.blk pb 22 [(.slice Ap p.length cp)], .blk qb 71 [.pointer (some ⟨db, 0, none⟩)], .blk nb 9 [.string (bs nm)], .smap mb (kvE es), filsO es]])) (blksOf [.blk db 128 [.map (some mb), .bool pw, av], .grp [.blk pb 22 [(.slice Ap p.length cp)], .blk qb 71 [.pointer (some ⟨db, 0, none⟩)], .blk nb 9 [.string (bs nm)], .smap mb (kvE es), filsO es]]) ([.blk pb 22 [(.slice Ap p.length cp)], .blk qb 71 [.pointer (some ⟨db, 0, none⟩)], .blk nb 9 [.string (bs nm)], .smap mb (kvE es), filsO es] ++ [.blk db 128 [.map (some mb), .bool pw, av]]) := ((Hp.start_mine hM).pick [1, 0] (by kernel_rfl) rfl).open_
  replace hH : Hp w w _ _ [.blk pb 22 [.slice Ap p.length cp], .blk qb 71 [.pointer (some ⟨db, 0, none⟩)], .blk nb 9 [.string (bs nm)], .smap mb (kvE es), filsO es, .blk db 128 [.map (some mb), .bool pw, av]] := hH
  refine sw_draw (by kernel_rfl) (fun w_ => Hp w w_ (off w (blksOf [.blk db 128 [.map (some mb), .bool pw, av], .grp [.blk pb 22 [(.slice Ap p.length cp)], .blk qb 71 [.pointer (some ⟨db, 0, none⟩)], .blk nb 9 [.string (bs nm)], .smap mb (kvE es), filsO es]])) (blksOf [.blk db 128 [.map (some mb), .bool pw, av], .grp [.blk pb 22 [(.slice Ap p.length cp)], .blk qb 71 [.pointer (some ⟨db, 0, none⟩)], .blk nb 9 [.string (bs nm)], .smap mb (kvE es), filsO es]]) [.blk pb 22 [.slice Ap p.length cp], .blk qb 71 [.pointer (some ⟨db, 0, none⟩)], .blk nb 9 [.string (bs nm)], filsO es, .blk db 128 [.map (some mb), .bool pw, av]]) ?_  -- R0 disk.go:108
  replace hH := hH.drew
  generalize { w with drawn := w.drawn + 1 } = w1 at hH ⊢
  have hS9 := hH.sublist (.cons_cons _ (.cons_cons _ (.cons_cons _ (.cons _ (.cons_cons _ (.cons_cons _ (List.nil_sublist _)))))))
  refine gd_q 0 rfl (by kernel_rfl) PQ.body hS9 rfl rfl (fun w_ hS => (rd_loadK 1 (by kernel_rfl) hS rfl rfl rfl)) ?_
  refine gd_pure 1 rfl (by kernel_rfl) PQ.body hS9 rfl rfl (.pointer (some ⟨db, 0, none⟩)) (by kernel_rfl) ?_
  refine gd_pure 2 rfl (by kernel_rfl) PQ.body hS9 rfl rfl (.pointer (some ⟨db, 0, none⟩)) (by kernel_rfl) ?_
  refine gd_keep [(0, .pointer (some ⟨pb, 0, none⟩)), (2, .pointer (some ⟨nb, 0, none⟩)), (5, .pointer (some ⟨db, 0, none⟩))] (by kernel_rfl) ?_
  refine gd_q 3 rfl (by kernel_rfl) PQ.body hS9 rfl rfl (fun w_ hS => (rd_loadK 4 (by kernel_rfl) hS rfl rfl rfl)) ?_
  refine gd_q 4 rfl (by kernel_rfl) PQ.body hS9 rfl rfl (fun w_ hS => (rd_loadK 2 (by kernel_rfl) hS rfl rfl rfl)) ?_
  refine gd_q 5 rfl (by kernel_rfl) PQ.body hS9 rfl rfl (fun w_ hS => (rd_loadK 0 (by kernel_rfl) hS rfl rfl rfl)) ?_
  refine gd_keep [(0, .pointer (some ⟨pb, 0, none⟩)), (6, .map (some mb)), (7, .string (bs nm)), (8, .slice Ap p.length cp)] (by kernel_rfl) ?_
  refine gd_q 7 rfl (by kernel_rfl) PQ.body hS9 rfl rfl (fun w_ hS => (rd_loadK 0 (by kernel_rfl) hS rfl rfl rfl)) ?_
  refine gd_q 8 rfl (by kernel_rfl) PQ.body hS9 rfl rfl (fun w_ hS => (rd_len (e := 5) (by kernel_rfl) rfl)) ?_
  refine gd_st 6 (by kernel_rfl) (st_call rfl rfl rfl (by kernel_rfl) rfl (SClone_ct _ p _ (hpz.mono hH.zin) (by omega)) ?_)
  rintro _ w4 ⟨v2, rfl, hF5⟩
  replace hH := hH.call hF5; clear hF5
  obtain ⟨A6, c7, rfl, hl8, hm9⟩ := hH.row_form 6 rfl
  replace hH : Hp w w4 _ _ [.blk pb 22 [.slice Ap p.length cp], .blk qb 71 [.pointer (some ⟨db, 0, none⟩)], .blk nb 9 [.string (bs nm)], .smap mb (kvE es), filsO es, .blk db 128 [.map (some mb), .bool pw, av], .row (.slice A6 p.length c7) 5 1 p.length (bv p)] := hH
  replace hS9 := hH.sublist (.cons_cons _ (.cons_cons _ (.cons_cons _ (.cons _ (.cons_cons _ (.cons_cons _ (List.nil_sublist _)))))))
  refine ⟨hS9, ?_⟩
  refine gd_keep [(6, .map (some mb)), (7, .string (bs nm)), (9, .slice A6 p.length c7), (11, .int .i64 ((p.length : Nat) : Int))] (by kernel_rfl) ?_
  refine gd_pure 9 rfl (by kernel_rfl) PQ.body hS9 rfl rfl (.agg #[.slice A6 p.length c7, .int .i64 ((p.length : Nat) : Int)]) (by kernel_rfl) ?_
  refine gd_st 10 (by kernel_rfl) (st_boxH (cs := [.slice A6 p.length c7, .int .i64 ((p.length : Nat) : Int)]) rfl rfl rfl rfl hH ?_)
  clear hH; intro b10 w11 hH
  replace hH : Hp w w11 _ _ [.blk pb 22 [.slice Ap p.length cp], .blk qb 71 [.pointer (some ⟨db, 0, none⟩)], .blk nb 9 [.string (bs nm)], .smap mb (kvE es), filsO es, .blk db 128 [.map (some mb), .bool pw, av], .row (.slice A6 p.length c7) 5 1 p.length (bv p), .blk b10 138 [.slice A6 p.length c7, .int .i64 ((p.length : Nat) : Int)]] := hH
  replace hS9 := hH.sublist (.cons_cons _ (.cons_cons _ (.cons_cons _ (.cons _ (.cons_cons _ (.cons_cons _ (List.nil_sublist _)))))))
  refine ⟨hS9, ?_⟩
  refine gd_keep [(6, .map (some mb)), (7, .string (bs nm)), (13, .pointer (some ⟨b10, 0, none⟩))] (by kernel_rfl) ?_
  refine gd_st 11 (by kernel_rfl) (st_smput (kt := 9) (e := 136) (v := .pointer (some ⟨b10, 0, none⟩)) 3 rfl rfl rfl (by kernel_rfl) (by kernel_rfl) hH rfl rfl nm rfl rfl ?_)
  clear hH; intro w12 hH
  replace hH : Hp w w12 _ _ [.blk pb 22 [.slice Ap p.length cp], .blk qb 71 [.pointer (some ⟨db, 0, none⟩)], .blk nb 9 [.string (bs nm)], .smap mb (kput (kvE es) nm (.pointer (some ⟨b10, 0, none⟩))), filsO es, .blk db 128 [.map (some mb), .bool pw, av], .row (.slice A6 p.length c7) 5 1 p.length (bv p), .blk b10 138 [.slice A6 p.length c7, .int .i64 ((p.length : Nat) : Int)]] := hH
  replace hS9 := hH.sublist (.cons_cons _ (.cons_cons _ (.cons_cons _ (.cons _ (.cons_cons _ (.cons_cons _ (List.nil_sublist _)))))))
  refine ⟨hS9, ?_⟩
  refine gd_keep [] (by kernel_rfl) ?_
  refine gd_done (by kernel_rfl) ?_
  refine at_sub [] (Sub.of_eq (by kernel_rfl)) ?_
  refine end0 rfl ?_
  replace hH : Hp w w12 _ _ [.blk pb 22 [.slice Ap p.length cp], .blk qb 71 [.pointer (some ⟨db, 0, none⟩)], .blk nb 9 [.string (bs nm)], .smap mb (kput (kvE es) nm (.pointer (some ⟨b10, 0, none⟩))), filsO es, .blk db 128 [.map (some mb), .bool pw, av], .row (.slice A6 p.length c7) 5 1 p.length (bv p), .blk b10 138 [.slice A6 p.length c7, .int .i64 ((p.length : Nat) : Int)]] := hH
  replace hH := hH.pick [6, 0, 1, 2, 3, 4, 5, 7] (by kernel_rfl) (os' := [.row (.slice A6 p.length c7) 5 1 p.length (bv p), .blk pb 22 [.slice Ap p.length cp], .blk qb 71 [.pointer (some ⟨db, 0, none⟩)], .blk nb 9 [.string (bs nm)], .smap mb (kput (kvE es) nm (.pointer (some ⟨b10, 0, none⟩))), filsO es, .blk db 128 [.map (some mb), .bool pw, av], .blk b10 138 [.slice A6 p.length c7, .int .i64 ((p.length : Nat) : Int)]]) (by kernel_rfl)
  replace hH := hH.to_vw
  replace hH : Hp w w12 _ _ [.vw (.slice A6 p.length c7) 5 p, .blk pb 22 [.slice Ap p.length cp], .blk qb 71 [.pointer (some ⟨db, 0, none⟩)], .blk nb 9 [.string (bs nm)], .smap mb (kput (kvE es) nm (.pointer (some ⟨b10, 0, none⟩))), filsO es, .blk db 128 [.map (some mb), .bool pw, av], .blk b10 138 [.slice A6 p.length c7, .int .i64 ((p.length : Nat) : Int)]] := hH
  replace hH := hH.pick [7, 0, 5, 1, 2, 3, 4, 6] (by kernel_rfl) (os' := [.blk b10 138 [.slice A6 p.length c7, .int .i64 ((p.length : Nat) : Int)], .vw (.slice A6 p.length c7) 5 p, filsO es, .blk pb 22 [.slice Ap p.length cp], .blk qb 71 [.pointer (some ⟨db, 0, none⟩)], .blk nb 9 [.string (bs nm)], .smap mb (kput (kvE es) nm (.pointer (some ⟨b10, 0, none⟩))), .blk db 128 [.map (some mb), .bool pw, av]]) (by kernel_rfl)
  replace hH : Hp w w12 _ _ (f1O ⟨nm, b10, (.slice A6 p.length c7), p, p.length⟩ :: f2O ⟨nm, b10, (.slice A6 p.length c7), p, p.length⟩ :: filsO es :: [.blk pb 22 [.slice Ap p.length cp], .blk qb 71 [.pointer (some ⟨db, 0, none⟩)], .blk nb 9 [.string (bs nm)], .smap mb (kput (kvE es) nm (.pointer (some ⟨b10, 0, none⟩))), .blk db 128 [.map (some mb), .bool pw, av]]) := hH
  replace hH := fil_put hH
  have hk : kput (kvE es) nm (.pointer (some ⟨b10, 0, none⟩)) = kvE (putE es ⟨nm, b10, (.slice A6 p.length c7), p, p.length⟩) := kput_kvE es ⟨nm, b10, (.slice A6 p.length c7), p, p.length⟩
  replace hH := hH.cast (os' := [filsO (putE es ⟨nm, b10, (.slice A6 p.length c7), p, p.length⟩), .blk pb 22 [.slice Ap p.length cp], .blk qb 71 [.pointer (some ⟨db, 0, none⟩)], .blk nb 9 [.string (bs nm)], .smap mb (kvE (putE es ⟨nm, b10, (.slice A6 p.length c7), p, p.length⟩)), .blk db 128 [.map (some mb), .bool pw, av]]) (by rw [hk])
  replace hH : Hp w w12 _ _ [filsO (putE es ⟨nm, b10, (.slice A6 p.length c7), p, p.length⟩), .blk pb 22 [.slice Ap p.length cp], .blk qb 71 [.pointer (some ⟨db, 0, none⟩)], .blk nb 9 [.string (bs nm)], .smap mb (kvE (putE es ⟨nm, b10, (.slice A6 p.length c7), p, p.length⟩)), .blk db 128 [.map (some mb), .bool pw, av]] := hH
  replace hH := hH.pick [1, 2, 3, 4, 0, 5] (by kernel_rfl) (os' := [.blk pb 22 [.slice Ap p.length cp], .blk qb 71 [.pointer (some ⟨db, 0, none⟩)], .blk nb 9 [.string (bs nm)], .smap mb (kvE (putE es ⟨nm, b10, (.slice A6 p.length c7), p, p.length⟩)), filsO (putE es ⟨nm, b10, (.slice A6 p.length c7), p, p.length⟩), .blk db 128 [.map (some mb), .bool pw, av]]) (by kernel_rfl)
  replace hH := (hH.sublist (.cons_cons _ (.cons_cons _ (.cons_cons _ (.cons_cons _ (.cons_cons _ (.cons_cons _ (List.nil_sublist _))))))))
  replace hH : Hp w w12 _ _ [.blk pb 22 [.slice Ap p.length cp], .blk qb 71 [.pointer (some ⟨db, 0, none⟩)], .blk nb 9 [.string (bs nm)], .smap mb (kvE (putE es ⟨nm, b10, (.slice A6 p.length c7), p, p.length⟩)), filsO (putE es ⟨nm, b10, (.slice A6 p.length c7), p, p.length⟩), .blk db 128 [.map (some mb), .bool pw, av]] := hH
  have h2 : Hp w w12 _ _ ([.blk pb 22 [.slice Ap p.length cp], .blk qb 71 [.pointer (some ⟨db, 0, none⟩)], .blk nb 9 [.string (bs nm)], .smap mb (kvE (putE es ⟨nm, b10, (.slice A6 p.length c7), p, p.length⟩)), filsO (putE es ⟨nm, b10, (.slice A6 p.length c7), p, p.length⟩)] ++ [.blk db 128 [.map (some mb), .bool pw, av]]) := hH
  exact ⟨(b10, (.slice A6 p.length c7)), rfl, (h2.close.pick [1, 0] (by kernel_rfl) rfl).turned⟩
def sliceA : Value → Option Addr
  | .slice A _ _ => A
  | _ => none

theorem CutDo_ct (tb nb n : Nat) (es : List PE) (i : Nat) (nm : List UInt8) (fb : Nat) (fv : Value) (b : List UInt8) (sr : Nat) (he : es[i]? = some ⟨nm, fb, fv, b, sr⟩) (h : Own) (w : World) (hM : Mine w [h, .grp [.blk tb 136 [.pointer (some ⟨fb, 0, none⟩)], .blk nb 3 [.int .i64 ((n : Nat) : Int)], filsO es]]) (hn : n ≤ b.length) :
    Fun Tryd.prog 95 [.pointer (some ⟨tb, 0, none⟩), .pointer (some ⟨nb, 0, none⟩)] w fun v w' => ∃ u : Unit, v = .tuple #[] ∧ Turn w w' [h, .grp [.blk tb 136 [.pointer (some ⟨fb, 0, none⟩)], .blk nb 3 [.int .i64 ((n : Nat) : Int)], filsO es]] [h, .grp [.blk tb 136 [.pointer (some ⟨fb, 0, none⟩)], .blk nb 3 [.int .i64 ((n : Nat) : Int)], filsO (es.set i ⟨nm, fb, .slice (sliceA fv) n n, b.take n, min sr n⟩)]] := by
  refine fun_of_sw Tryd.func95 rfl 21 rfl rfl ?_
  have hH : Hp w w (off w (blksOf [h, .grp [.blk tb 136 [.pointer (some ⟨fb, 0, none⟩)], .blk nb 3 [.int .i64 ((n : Nat) : Int)], filsO es]])) (blksOf [h, .grp [.blk tb 136 [.pointer (some ⟨fb, 0, none⟩)], .blk nb 3 [.int .i64 ((n : Nat) : Int)], filsO es]]) ([.blk tb 136 [.pointer (some ⟨fb, 0, none⟩)], .blk nb 3 [.int .i64 ((n : Nat) : Int)], filsO es] ++ [h]) := ((Hp.start_mine hM).pick [1, 0] (by kernel_rfl) rfl).open_
  replace hH : Hp w w _ _ [.blk tb 136 [.pointer (some ⟨fb, 0, none⟩)], .blk nb 3 [.int .i64 ((n : Nat) : Int)], filsO es, h] := hH
  replace hH : Hp w w _ _ [.blk tb 136 [.pointer (some ⟨fb, 0, none⟩)], .blk nb 3 [.int .i64 ((n : Nat) : Int)], filsO es, h] := hH
  replace hH := hH.pick [2, 0, 1, 3] (by kernel_rfl) (os' := [filsO es, .blk tb 136 [.pointer (some ⟨fb, 0, none⟩)], .blk nb 3 [.int .i64 ((n : Nat) : Int)], h]) (by kernel_rfl)
  replace hH := fil_out he hH
  replace hH : Hp w w _ _ [.blk fb 138 [fv, .int .i64 ((sr : Nat) : Int)], .vw fv 5 b, restO es i, .blk tb 136 [.pointer (some ⟨fb, 0, none⟩)], .blk nb 3 [.int .i64 ((n : Nat) : Int)], h] := hH
  obtain ⟨Af, cf, hv, hv1, hv2⟩ := hH.vw_form 1 rfl
  subst hv
  refine sw_draw (by kernel_rfl) (fun w_ => Hp w w_ (off w (blksOf [h, .grp [.blk tb 136 [.pointer (some ⟨fb, 0, none⟩)], .blk nb 3 [.int .i64 ((n : Nat) : Int)], filsO es]])) (blksOf [h, .grp [.blk tb 136 [.pointer (some ⟨fb, 0, none⟩)], .blk nb 3 [.int .i64 ((n : Nat) : Int)], filsO es]]) [.vw (.slice Af b.length cf) 5 b, restO es i, .blk tb 136 [.pointer (some ⟨fb, 0, none⟩)], .blk nb 3 [.int .i64 ((n : Nat) : Int)], h]) ?_  -- R0 disk.go:120
  replace hH := hH.drew
  generalize { w with drawn := w.drawn + 1 } = w1 at hH ⊢
  have hS9 := hH.sublist (.cons _ (.cons_cons _ (.cons_cons _ (.cons_cons _ (.cons_cons _ (.cons_cons _ (List.nil_sublist _)))))))
  refine gd_q 0 rfl (by kernel_rfl) PQ.body hS9 rfl rfl (fun w_ hS => (rd_loadK 2 (by kernel_rfl) hS rfl rfl rfl)) ?_
  refine gd_q 1 rfl (by kernel_rfl) PQ.body hS9 rfl rfl (fun w_ hS => (rd_loadK 2 (by kernel_rfl) hS rfl rfl rfl)) ?_
  refine gd_q 2 rfl (by kernel_rfl) PQ.body hS9 rfl rfl (fun w_ hS => (rd_loadK 2 (by kernel_rfl) hS rfl rfl rfl)) ?_
  refine gd_keep [(0, .pointer (some ⟨tb, 0, none⟩)), (1, .pointer (some ⟨nb, 0, none⟩)), (2, .pointer (some ⟨fb, 0, none⟩)), (3, .pointer (some ⟨fb, 0, none⟩)), (4, .pointer (some ⟨fb, 0, none⟩))] (by kernel_rfl) ?_
  refine gd_pure 3 rfl (by kernel_rfl) PQ.body hS9 rfl rfl (.pointer (some ⟨fb, 0, none⟩)) (by kernel_rfl) ?_
  refine gd_pure 4 rfl (by kernel_rfl) PQ.body hS9 rfl rfl (.pointer (some ⟨fb, 0, none⟩)) (by kernel_rfl) ?_
  refine gd_q 6 rfl (by kernel_rfl) PQ.body hS9 rfl rfl (fun w_ hS => (rd_loadK 3 (by kernel_rfl) hS rfl rfl rfl)) ?_
  refine gd_keep [(0, .pointer (some ⟨tb, 0, none⟩)), (1, .pointer (some ⟨nb, 0, none⟩)), (2, .pointer (some ⟨fb, 0, none⟩)), (3, .pointer (some ⟨fb, 0, none⟩)), (6, .pointer (some ⟨fb, 0, none⟩)), (8, .int .i64 ((n : Nat) : Int))] (by kernel_rfl) ?_
  refine gd_q 7 rfl (by kernel_rfl) PQ.body hS9 rfl rfl (fun w_ hS => (rd_loadK 3 (by kernel_rfl) hS rfl rfl rfl)) ?_
  refine gd_q 9 rfl (by kernel_rfl) PQ.body hS9 rfl rfl (fun w_ hS => (rd_loadK 2 (by kernel_rfl) hS rfl rfl rfl)) ?_
  refine gd_pure 10 rfl (by kernel_rfl) PQ.body hS9 rfl rfl (.pointer (some ⟨fb, 0, none⟩)) (by kernel_rfl) ?_
  refine gd_keep [(1, .pointer (some ⟨nb, 0, none⟩)), (2, .pointer (some ⟨fb, 0, none⟩)), (3, .pointer (some ⟨fb, 0, none⟩)), (6, .pointer (some ⟨fb, 0, none⟩)), (8, .int .i64 ((n : Nat) : Int)), (9, .int .i64 ((n : Nat) : Int)), (12, .pointer (some ⟨fb, 0, none⟩))] (by kernel_rfl) ?_
  refine gd_pure 11 rfl (by kernel_rfl) PQ.body hS9 rfl rfl (.pointer (some ⟨fb, 1, none⟩)) (by kernel_rfl) ?_
  refine gd_q 13 rfl (by kernel_rfl) PQ.body hS9 rfl rfl (fun w_ hS => (rd_loadK 3 (by kernel_rfl) hS rfl rfl rfl)) ?_
  refine gd_st2 5 12 (by kernel_rfl) ?_ ?_
  ·
    refine st_q rfl rfl rfl (rd_loadK 0 (by kernel_rfl) hH rfl rfl rfl) ?_
    refine ⟨hS9, ?_⟩
    refine gd_keep [(2, .pointer (some ⟨fb, 0, none⟩)), (3, .pointer (some ⟨fb, 0, none⟩)), (7, .slice Af b.length cf), (8, .int .i64 ((n : Nat) : Int)), (9, .int .i64 ((n : Nat) : Int)), (13, .pointer (some ⟨fb, 1, none⟩)), (15, .int .i64 ((n : Nat) : Int))] (by kernel_rfl) ?_
    refine gd_q 8 rfl (by kernel_rfl) PQ.body hS9 rfl rfl (fun w_ hS => (rd_cut3 (e := 5) (m := 1) (by kernel_rfl) (by kernel_rfl) rfl (.inl ⟨rfl, rfl⟩) rfl rfl (cut3_front Af b.length cf n 1 (by omega)))) ?_
    refine gd_st 12 (by kernel_rfl) (st_q rfl rfl rfl (rd_loadK 0 (by kernel_rfl) hH rfl rfl rfl) ?_)
    refine ⟨hS9, ?_⟩
    refine gd_keep [(2, .pointer (some ⟨fb, 0, none⟩)), (3, .pointer (some ⟨fb, 0, none⟩)), (10, .slice Af n n), (14, .int .i64 ((sr : Nat) : Int)), (15, .int .i64 ((n : Nat) : Int))] (by kernel_rfl) ?_
    refine gd_pure 14 rfl (by kernel_rfl) PQ.body hS9 rfl rfl (.int .i64 (if ((n : Nat) : Int) < ((sr : Nat) : Int) then ((n : Nat) : Int) else ((sr : Nat) : Int))) (by kernel_rfl) ?_
    refine gd_cv 16 (.int .i64 (((min sr n) : Nat) : Int)) (cv_minN) rfl ?_
    refine gd_pure 15 rfl (by kernel_rfl) PQ.body hS9 rfl rfl (.pointer (some ⟨fb, 0, none⟩)) (by kernel_rfl) ?_
    refine gd_pure 16 rfl (by kernel_rfl) PQ.body hS9 rfl rfl (.pointer (some ⟨fb, 0, none⟩)) (by kernel_rfl) ?_
    refine gd_keep [(3, .pointer (some ⟨fb, 0, none⟩)), (10, .slice Af n n), (16, .int .i64 (((min sr n) : Nat) : Int)), (18, .pointer (some ⟨fb, 0, none⟩))] (by kernel_rfl) ?_
    refine gd_st 17 (by kernel_rfl) (st_storeK (v := .slice Af n n) 0 rfl rfl rfl hH rfl rfl rfl (by kernel_rfl) rfl (by simp) ?_)
    clear hH; intro w2 hH
    replace hS9 := hH.sublist (.cons _ (.cons_cons _ (.cons_cons _ (.cons_cons _ (.cons_cons _ (.cons_cons _ (List.nil_sublist _)))))))
    refine ⟨hS9, ?_⟩
    refine gd_keep [(3, .pointer (some ⟨fb, 0, none⟩)), (16, .int .i64 (((min sr n) : Nat) : Int))] (by kernel_rfl) ?_
    refine gd_pure 18 rfl (by kernel_rfl) PQ.body hS9 rfl rfl (.pointer (some ⟨fb, 0, none⟩)) (by kernel_rfl) ?_
    refine gd_pure 19 rfl (by kernel_rfl) PQ.body hS9 rfl rfl (.pointer (some ⟨fb, 1, none⟩)) (by kernel_rfl) ?_
    refine gd_st 20 (by kernel_rfl) (st_storeK (v := .int .i64 (((min sr n) : Nat) : Int)) 0 rfl rfl rfl hH rfl rfl rfl (by kernel_rfl) rfl (by simp) ?_)
    clear hH; intro w3 hH
    replace hS9 := hH.sublist (.cons _ (.cons_cons _ (.cons_cons _ (.cons_cons _ (.cons_cons _ (.cons_cons _ (List.nil_sublist _)))))))
    refine ⟨hS9, ?_⟩
    refine gd_keep [] (by kernel_rfl) ?_
    refine gd_done (by kernel_rfl) ?_
    refine at_sub [] (Sub.of_eq (by kernel_rfl)) ?_
    refine end0 rfl ?_
    replace hH : Hp w w3 _ _ [.blk fb 138 [.slice Af n n, .int .i64 (((min sr n) : Nat) : Int)], .vw (.slice Af b.length cf) 5 b, restO es i, .blk tb 136 [.pointer (some ⟨fb, 0, none⟩)], .blk nb 3 [.int .i64 ((n : Nat) : Int)], h] := hH
    replace hH := hH.pick [1, 0, 2, 3, 4, 5] (by kernel_rfl) (os' := [.vw (.slice Af b.length cf) 5 b, .blk fb 138 [.slice Af n n, .int .i64 (((min sr n) : Nat) : Int)], restO es i, .blk tb 136 [.pointer (some ⟨fb, 0, none⟩)], .blk nb 3 [.int .i64 ((n : Nat) : Int)], h]) (by kernel_rfl)
    replace hH := hH.cut_vw n (by omega)
    replace hH : Hp w w3 _ _ [.vw (.slice Af n n) 5 (b.take n), .blk fb 138 [.slice Af n n, .int .i64 (((min sr n) : Nat) : Int)], restO es i, .blk tb 136 [.pointer (some ⟨fb, 0, none⟩)], .blk nb 3 [.int .i64 ((n : Nat) : Int)], h] := hH
    replace hH := hH.pick [1, 0, 2, 3, 4, 5] (by kernel_rfl) (os' := [.blk fb 138 [.slice Af n n, .int .i64 (((min sr n) : Nat) : Int)], .vw (.slice Af n n) 5 (b.take n), restO es i, .blk tb 136 [.pointer (some ⟨fb, 0, none⟩)], .blk nb 3 [.int .i64 ((n : Nat) : Int)], h]) (by kernel_rfl)
    replace hH : Hp w w3 _ _ (f1O ⟨nm, fb, .slice Af n n, b.take n, min sr n⟩ :: f2O ⟨nm, fb, .slice Af n n, b.take n, min sr n⟩ :: restO es i :: [.blk tb 136 [.pointer (some ⟨fb, 0, none⟩)], .blk nb 3 [.int .i64 ((n : Nat) : Int)], h]) := hH
    replace hH := fil_in (List.getElem?_eq_some_iff.1 he).1 hH
    replace hH : Hp w w3 _ _ [filsO (es.set i ⟨nm, fb, .slice Af n n, b.take n, min sr n⟩), .blk tb 136 [.pointer (some ⟨fb, 0, none⟩)], .blk nb 3 [.int .i64 ((n : Nat) : Int)], h] := hH
    replace hH := hH.pick [1, 2, 0, 3] (by kernel_rfl) (os' := [.blk tb 136 [.pointer (some ⟨fb, 0, none⟩)], .blk nb 3 [.int .i64 ((n : Nat) : Int)], filsO (es.set i ⟨nm, fb, .slice Af n n, b.take n, min sr n⟩), h]) (by kernel_rfl)
    replace hH := (hH.sublist (.cons_cons _ (.cons_cons _ (.cons_cons _ (.cons_cons _ (List.nil_sublist _))))))
    replace hH : Hp w w3 _ _ [.blk tb 136 [.pointer (some ⟨fb, 0, none⟩)], .blk nb 3 [.int .i64 ((n : Nat) : Int)], filsO (es.set i ⟨nm, fb, .slice Af n n, b.take n, min sr n⟩), h] := hH
    have h2 : Hp w w3 _ _ ([.blk tb 136 [.pointer (some ⟨fb, 0, none⟩)], .blk nb 3 [.int .i64 ((n : Nat) : Int)], filsO (es.set i ⟨nm, fb, .slice Af n n, b.take n, min sr n⟩)] ++ [h]) := hH
    exact ⟨(), rfl, (h2.close.pick [1, 0] (by kernel_rfl) rfl).turned⟩
  ·
    refine st_q rfl rfl rfl (rd_loadK 0 (by kernel_rfl) hH rfl rfl rfl) ?_
    refine ⟨hS9, ?_⟩
    refine gd_keep [(2, .pointer (some ⟨fb, 0, none⟩)), (3, .pointer (some ⟨fb, 0, none⟩)), (6, .pointer (some ⟨fb, 0, none⟩)), (8, .int .i64 ((n : Nat) : Int)), (9, .int .i64 ((n : Nat) : Int)), (14, .int .i64 ((sr : Nat) : Int)), (15, .int .i64 ((n : Nat) : Int))] (by kernel_rfl) ?_
    refine gd_pure 14 rfl (by kernel_rfl) PQ.body hS9 rfl rfl (.int .i64 (if ((n : Nat) : Int) < ((sr : Nat) : Int) then ((n : Nat) : Int) else ((sr : Nat) : Int))) (by kernel_rfl) ?_
    refine gd_cv 16 (.int .i64 (((min sr n) : Nat) : Int)) (cv_minN) rfl ?_
    refine gd_st 5 (by kernel_rfl) (st_q rfl rfl rfl (rd_loadK 0 (by kernel_rfl) hH rfl rfl rfl) ?_)
    refine ⟨hS9, ?_⟩
    refine gd_keep [(2, .pointer (some ⟨fb, 0, none⟩)), (3, .pointer (some ⟨fb, 0, none⟩)), (7, .slice Af b.length cf), (8, .int .i64 ((n : Nat) : Int)), (9, .int .i64 ((n : Nat) : Int)), (16, .int .i64 (((min sr n) : Nat) : Int))] (by kernel_rfl) ?_
    refine gd_q 8 rfl (by kernel_rfl) PQ.body hS9 rfl rfl (fun w_ hS => (rd_cut3 (e := 5) (m := 1) (by kernel_rfl) (by kernel_rfl) rfl (.inl ⟨rfl, rfl⟩) rfl rfl (cut3_front Af b.length cf n 1 (by omega)))) ?_
    refine gd_pure 15 rfl (by kernel_rfl) PQ.body hS9 rfl rfl (.pointer (some ⟨fb, 0, none⟩)) (by kernel_rfl) ?_
    refine gd_pure 16 rfl (by kernel_rfl) PQ.body hS9 rfl rfl (.pointer (some ⟨fb, 0, none⟩)) (by kernel_rfl) ?_
    refine gd_keep [(3, .pointer (some ⟨fb, 0, none⟩)), (10, .slice Af n n), (16, .int .i64 (((min sr n) : Nat) : Int)), (18, .pointer (some ⟨fb, 0, none⟩))] (by kernel_rfl) ?_
    refine gd_st 17 (by kernel_rfl) (st_storeK (v := .slice Af n n) 0 rfl rfl rfl hH rfl rfl rfl (by kernel_rfl) rfl (by simp) ?_)
    clear hH; intro w4 hH
    replace hS9 := hH.sublist (.cons _ (.cons_cons _ (.cons_cons _ (.cons_cons _ (.cons_cons _ (.cons_cons _ (List.nil_sublist _)))))))
    refine ⟨hS9, ?_⟩
    refine gd_keep [(3, .pointer (some ⟨fb, 0, none⟩)), (16, .int .i64 (((min sr n) : Nat) : Int))] (by kernel_rfl) ?_
    refine gd_pure 18 rfl (by kernel_rfl) PQ.body hS9 rfl rfl (.pointer (some ⟨fb, 0, none⟩)) (by kernel_rfl) ?_
    refine gd_pure 19 rfl (by kernel_rfl) PQ.body hS9 rfl rfl (.pointer (some ⟨fb, 1, none⟩)) (by kernel_rfl) ?_
    refine gd_st 20 (by kernel_rfl) (st_storeK (v := .int .i64 (((min sr n) : Nat) : Int)) 0 rfl rfl rfl hH rfl rfl rfl (by kernel_rfl) rfl (by simp) ?_)
    clear hH; intro w5 hH
    replace hS9 := hH.sublist (.cons _ (.cons_cons _ (.cons_cons _ (.cons_cons _ (.cons_cons _ (.cons_cons _ (List.nil_sublist _)))))))
    refine ⟨hS9, ?_⟩
    refine gd_keep [] (by kernel_rfl) ?_
    refine gd_done (by kernel_rfl) ?_
    refine at_sub [] (Sub.of_eq (by kernel_rfl)) ?_
    refine end0 rfl ?_
    replace hH : Hp w w5 _ _ [.blk fb 138 [.slice Af n n, .int .i64 (((min sr n) : Nat) : Int)], .vw (.slice Af b.length cf) 5 b, restO es i, .blk tb 136 [.pointer (some ⟨fb, 0, none⟩)], .blk nb 3 [.int .i64 ((n : Nat) : Int)], h] := hH
    replace hH := hH.pick [1, 0, 2, 3, 4, 5] (by kernel_rfl) (os' := [.vw (.slice Af b.length cf) 5 b, .blk fb 138 [.slice Af n n, .int .i64 (((min sr n) : Nat) : Int)], restO es i, .blk tb 136 [.pointer (some ⟨fb, 0, none⟩)], .blk nb 3 [.int .i64 ((n : Nat) : Int)], h]) (by kernel_rfl)
    replace hH := hH.cut_vw n (by omega)
    replace hH : Hp w w5 _ _ [.vw (.slice Af n n) 5 (b.take n), .blk fb 138 [.slice Af n n, .int .i64 (((min sr n) : Nat) : Int)], restO es i, .blk tb 136 [.pointer (some ⟨fb, 0, none⟩)], .blk nb 3 [.int .i64 ((n : Nat) : Int)], h] := hH
    replace hH := hH.pick [1, 0, 2, 3, 4, 5] (by kernel_rfl) (os' := [.blk fb 138 [.slice Af n n, .int .i64 (((min sr n) : Nat) : Int)], .vw (.slice Af n n) 5 (b.take n), restO es i, .blk tb 136 [.pointer (some ⟨fb, 0, none⟩)], .blk nb 3 [.int .i64 ((n : Nat) : Int)], h]) (by kernel_rfl)
    replace hH : Hp w w5 _ _ (f1O ⟨nm, fb, .slice Af n n, b.take n, min sr n⟩ :: f2O ⟨nm, fb, .slice Af n n, b.take n, min sr n⟩ :: restO es i :: [.blk tb 136 [.pointer (some ⟨fb, 0, none⟩)], .blk nb 3 [.int .i64 ((n : Nat) : Int)], h]) := hH
    replace hH := fil_in (List.getElem?_eq_some_iff.1 he).1 hH
    replace hH : Hp w w5 _ _ [filsO (es.set i ⟨nm, fb, .slice Af n n, b.take n, min sr n⟩), .blk tb 136 [.pointer (some ⟨fb, 0, none⟩)], .blk nb 3 [.int .i64 ((n : Nat) : Int)], h] := hH
    replace hH := hH.pick [1, 2, 0, 3] (by kernel_rfl) (os' := [.blk tb 136 [.pointer (some ⟨fb, 0, none⟩)], .blk nb 3 [.int .i64 ((n : Nat) : Int)], filsO (es.set i ⟨nm, fb, .slice Af n n, b.take n, min sr n⟩), h]) (by kernel_rfl)
    replace hH := (hH.sublist (.cons_cons _ (.cons_cons _ (.cons_cons _ (.cons_cons _ (List.nil_sublist _))))))
    replace hH : Hp w w5 _ _ [.blk tb 136 [.pointer (some ⟨fb, 0, none⟩)], .blk nb 3 [.int .i64 ((n : Nat) : Int)], filsO (es.set i ⟨nm, fb, .slice Af n n, b.take n, min sr n⟩), h] := hH
    have h2 : Hp w w5 _ _ ([.blk tb 136 [.pointer (some ⟨fb, 0, none⟩)], .blk nb 3 [.int .i64 ((n : Nat) : Int)], filsO (es.set i ⟨nm, fb, .slice Af n n, b.take n, min sr n⟩)] ++ [h]) := hH
    exact ⟨(), rfl, (h2.close.pick [1, 0] (by kernel_rfl) rfl).turned⟩
theorem RemDo_ct (qb nb db mb : Nat) (pw : Bool) (av : Value) (es : List PE) (nm : List UInt8) (w : World) (hM : Mine w [.blk db 128 [.map (some mb), .bool pw, av], .grp [.blk qb 71 [.pointer (some ⟨db, 0, none⟩)], .blk nb 9 [.string (bs nm)], .smap mb (kvE es), filsO es]]) (hi : ixE es nm < es.length) :
    Fun Tryd.prog 96 [.pointer (some ⟨qb, 0, none⟩), .pointer (some ⟨nb, 0, none⟩)] w fun v w' => ∃ u : Unit, v = .tuple #[] ∧ Turn w w' [.blk db 128 [.map (some mb), .bool pw, av], .grp [.blk qb 71 [.pointer (some ⟨db, 0, none⟩)], .blk nb 9 [.string (bs nm)], .smap mb (kvE es), filsO es]] [.blk db 128 [.map (some mb), .bool pw, av], .grp [.blk qb 71 [.pointer (some ⟨db, 0, none⟩)], .blk nb 9 [.string (bs nm)], .smap mb (kvE (es.eraseIdx (ixE es nm))), filsO (es.eraseIdx (ixE es nm))]] := by
  refine fun_of_sw Tryd.func96 rfl 7 rfl rfl ?_
  have hH : Hp w w (off w (blksOf [.blk db 128 [.map (some mb), .bool pw, av], .grp [.blk qb 71 [.pointer (some ⟨db, 0, none⟩)], .blk nb 9 [.string (bs nm)], .smap mb (kvE es), filsO es]])) (blksOf [.blk db 128 [.map (some mb), .bool pw, av], .grp [.blk qb 71 [.pointer (some ⟨db, 0, none⟩)], .blk nb 9 [.string (bs nm)], .smap mb (kvE es), filsO es]]) ([.blk qb 71 [.pointer (some ⟨db, 0, none⟩)], .blk nb 9 [.string (bs nm)], .smap mb (kvE es), filsO es] ++ [.blk db 128 [.map (some mb), .bool pw, av]]) := ((Hp.start_mine hM).pick [1, 0] (by kernel_rfl) rfl).open_
  replace hH : Hp w w _ _ [.blk qb 71 [.pointer (some ⟨db, 0, none⟩)], .blk nb 9 [.string (bs nm)], .smap mb (kvE es), filsO es, .blk db 128 [.map (some mb), .bool pw, av]] := hH
  refine sw_draw (by kernel_rfl) (fun w_ => Hp w w_ (off w (blksOf [.blk db 128 [.map (some mb), .bool pw, av], .grp [.blk qb 71 [.pointer (some ⟨db, 0, none⟩)], .blk nb 9 [.string (bs nm)], .smap mb (kvE es), filsO es]])) (blksOf [.blk db 128 [.map (some mb), .bool pw, av], .grp [.blk qb 71 [.pointer (some ⟨db, 0, none⟩)], .blk nb 9 [.string (bs nm)], .smap mb (kvE es), filsO es]]) [.blk qb 71 [.pointer (some ⟨db, 0, none⟩)], .blk nb 9 [.string (bs nm)], filsO es, .blk db 128 [.map (some mb), .bool pw, av]]) ?_  -- R0 disk.go:128
  replace hH := hH.drew
  generalize { w with drawn := w.drawn + 1 } = w1 at hH ⊢
  have hS9 := hH.sublist (.cons_cons _ (.cons_cons _ (.cons _ (.cons_cons _ (.cons_cons _ (List.nil_sublist _))))))
  refine gd_q 0 rfl (by kernel_rfl) PQ.body hS9 rfl rfl (fun w_ hS => (rd_loadK 0 (by kernel_rfl) hS rfl rfl rfl)) ?_
  refine gd_pure 1 rfl (by kernel_rfl) PQ.body hS9 rfl rfl (.pointer (some ⟨db, 0, none⟩)) (by kernel_rfl) ?_
  refine gd_pure 2 rfl (by kernel_rfl) PQ.body hS9 rfl rfl (.pointer (some ⟨db, 0, none⟩)) (by kernel_rfl) ?_
  refine gd_keep [(1, .pointer (some ⟨nb, 0, none⟩)), (4, .pointer (some ⟨db, 0, none⟩))] (by kernel_rfl) ?_
  refine gd_q 3 rfl (by kernel_rfl) PQ.body hS9 rfl rfl (fun w_ hS => (rd_loadK 3 (by kernel_rfl) hS rfl rfl rfl)) ?_
  refine gd_q 4 rfl (by kernel_rfl) PQ.body hS9 rfl rfl (fun w_ hS => (rd_loadK 1 (by kernel_rfl) hS rfl rfl rfl)) ?_
  refine gd_st 5 (by kernel_rfl) (st_smdel (kt := 9) (e := 136) 2 rfl rfl rfl (by kernel_rfl) (by kernel_rfl) hH rfl rfl nm rfl ?_)
  clear hH; intro w2 hH
  replace hS9 := hH.sublist (.cons_cons _ (.cons_cons _ (.cons _ (.cons_cons _ (.cons_cons _ (List.nil_sublist _))))))
  refine ⟨hS9, ?_⟩
  refine gd_keep [] (by kernel_rfl) ?_
  refine gd_done (by kernel_rfl) ?_
  refine at_sub [] (Sub.of_eq (by kernel_rfl)) ?_
  refine end0 rfl ?_
  replace hH : Hp w w2 _ _ [.blk qb 71 [.pointer (some ⟨db, 0, none⟩)], .blk nb 9 [.string (bs nm)], .smap mb (kdel (kvE es) nm), filsO es, .blk db 128 [.map (some mb), .bool pw, av]] := hH
  replace hH := hH.pick [3, 0, 1, 2, 4] (by kernel_rfl) (os' := [filsO es, .blk qb 71 [.pointer (some ⟨db, 0, none⟩)], .blk nb 9 [.string (bs nm)], .smap mb (kdel (kvE es) nm), .blk db 128 [.map (some mb), .bool pw, av]]) (by kernel_rfl)
  replace hH := fil_del hi hH
  replace hH := hH.cast (os' := [filsO (es.eraseIdx (ixE es nm)), .blk qb 71 [.pointer (some ⟨db, 0, none⟩)], .blk nb 9 [.string (bs nm)], .smap mb (kvE (es.eraseIdx (ixE es nm))), .blk db 128 [.map (some mb), .bool pw, av]]) (by rw [kdel_kvE])
  replace hH : Hp w w2 _ _ [filsO (es.eraseIdx (ixE es nm)), .blk qb 71 [.pointer (some ⟨db, 0, none⟩)], .blk nb 9 [.string (bs nm)], .smap mb (kvE (es.eraseIdx (ixE es nm))), .blk db 128 [.map (some mb), .bool pw, av]] := hH
  replace hH := hH.pick [1, 2, 3, 0, 4] (by kernel_rfl) (os' := [.blk qb 71 [.pointer (some ⟨db, 0, none⟩)], .blk nb 9 [.string (bs nm)], .smap mb (kvE (es.eraseIdx (ixE es nm))), filsO (es.eraseIdx (ixE es nm)), .blk db 128 [.map (some mb), .bool pw, av]]) (by kernel_rfl)
  replace hH := (hH.sublist (.cons_cons _ (.cons_cons _ (.cons_cons _ (.cons_cons _ (.cons_cons _ (List.nil_sublist _)))))))
  replace hH : Hp w w2 _ _ [.blk qb 71 [.pointer (some ⟨db, 0, none⟩)], .blk nb 9 [.string (bs nm)], .smap mb (kvE (es.eraseIdx (ixE es nm))), filsO (es.eraseIdx (ixE es nm)), .blk db 128 [.map (some mb), .bool pw, av]] := hH
  have h2 : Hp w w2 _ _ ([.blk qb 71 [.pointer (some ⟨db, 0, none⟩)], .blk nb 9 [.string (bs nm)], .smap mb (kvE (es.eraseIdx (ixE es nm))), filsO (es.eraseIdx (ixE es nm))] ++ [.blk db 128 [.map (some mb), .bool pw, av]]) := hH
  exact ⟨(), rfl, (h2.close.pick [1, 0] (by kernel_rfl) rfl).turned⟩
end Go.Proofs.YtjcchjgkkplamaaDoor
