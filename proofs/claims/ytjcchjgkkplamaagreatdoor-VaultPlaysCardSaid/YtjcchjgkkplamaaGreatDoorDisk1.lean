/- Layer 18 (disk), the program's: the acts' own functions (closures), the acts; what they answer. -/
import Derived.Test.YtjcchjgkkplamaaGreatDoorDisk0
set_option maxRecDepth 100000
set_option maxHeartbeats 2000000
set_option linter.unusedVariables false
set_option linter.unusedSimpArgs false
namespace Go.Proofs.YtjcchjgkkplamaaGreatDoor
open Go.RowKit Go.SW
abbrev f1O (e : PE) : Own := .blk e.fb 84 [e.v, .int .i64 ((e.sure : Nat) : Int)]
abbrev f2O (e : PE) : Own := .vw e.v 5 e.b
abbrev restO (es : List PE) (i : Nat) : Own := .grp ((es.map fun e => Own.grp (filO e)).eraseIdx i)
section
variable {w w0 : World} {z : Zone} {F : List Nat} {r : List Own}
theorem fil_out {es : List PE} {i : Nat} {e : PE} (he : es[i]? = some e) (h : Hp w0 w z F (filsO es :: r)) : Hp w0 w z F (f1O e :: f2O e :: restO es i :: r) := by
  have h1 := Hp.out (l := es.map fun e => Own.grp (filO e)) h i (o := .grp (filO e)) (by rw [List.getElem?_map, he]; rfl)
  exact h1.open_
theorem fil_in {es : List PE} {i : Nat} {e : PE} (hi : i < es.length) (h : Hp w0 w z F (f1O e :: f2O e :: restO es i :: r)) : Hp w0 w z F (filsO (es.set i e) :: r) := by
  have h0 : Hp w0 w z F (filO e ++ (restO es i :: r)) := h
  have h1 := Hp.into (l := es.map fun e => Own.grp (filO e)) (i := i) (by simpa using hi) h0.close
  refine h1.cast ?_
  unfold filsO
  rw [List.map_set]
theorem fil_del {es : List PE} {i : Nat} (hi : i < es.length) (h : Hp w0 w z F (filsO es :: r)) : Hp w0 w z F (filsO (es.eraseIdx i) :: r) := by
  have h1 := Hp.out (l := es.map fun e => Own.grp (filO e)) h i (o := .grp (filO es[i])) (by rw [List.getElem?_map, List.getElem?_eq_getElem hi]; rfl)
  have h2 := h1.sublist (List.sublist_cons_self _ _)
  refine h2.cast ?_
  unfold filsO
  rw [map_eraseIdx]
theorem fil_add {es : List PE} {e : PE} (h : Hp w0 w z F (f1O e :: f2O e :: filsO es :: r)) : Hp w0 w z F (filsO (es ++ [e]) :: r) := by
  have h0 : Hp w0 w z F (filO e ++ (filsO es :: r)) := h
  have h1 := (h0.close.perm (List.Perm.swap _ _ _)).merge
  refine h1.cast ?_
  unfold filsO
  rw [List.map_append]; rfl
theorem fil_put {es : List PE} {e : PE} (h : Hp w0 w z F (f1O e :: f2O e :: filsO es :: r)) : Hp w0 w z F (filsO (putE es e) :: r) := by
  unfold putE
  split
  · rename_i hi
    have h1 : Hp w0 w z F ([f1O e, f2O e] ++ (filsO es :: r)) := h
    have h2 : Hp w0 w z F (filsO es :: (r ++ [f1O e, f2O e])) := h1.perm List.perm_append_comm
    obtain ⟨e0, h0⟩ : ∃ e0, es[ixE es e.name]? = some e0 := ⟨_, List.getElem?_eq_getElem hi⟩
    have h3 := (fil_out h0 h2).sublist ((List.sublist_cons_self _ _).trans (List.sublist_cons_self _ _))
    have h4 : Hp w0 w z F ((restO es (ixE es e.name) :: r) ++ [f1O e, f2O e]) := h3
    exact fil_in hi (h4.perm List.perm_append_comm)
  · exact fil_add h
end

theorem PutDo_ct (pb qb nb db mb : Nat) (pw : Bool) (av vp : Value) (es : List PE) (nm p : List UInt8) (Zp : Zone) (w : World) (hM : Mine w [.blk db 70 [.map (some mb), .bool pw, av], .grp [.blk pb 22 [vp], .blk qb 27 [.pointer (some ⟨db, 0, none⟩)], .blk nb 9 [.string (bs nm)], .smap mb (kvE es), filsO es]]) (hp : RB Zp vp p) (hZ : Zp.le (off w (blksOf [.blk db 70 [.map (some mb), .bool pw, av], .grp [.blk pb 22 [vp], .blk qb 27 [.pointer (some ⟨db, 0, none⟩)], .blk nb 9 [.string (bs nm)], .smap mb (kvE es), filsO es]]))) (hpl : p.length ≤ 140737488355328) :
    Fun Tryz.prog 39 [.pointer (some ⟨pb, 0, none⟩), .pointer (some ⟨qb, 0, none⟩), .pointer (some ⟨nb, 0, none⟩)] w fun v w' => ∃ u : Nat × Value, v = .tuple #[] ∧ Turn w w' [.blk db 70 [.map (some mb), .bool pw, av], .grp [.blk pb 22 [vp], .blk qb 27 [.pointer (some ⟨db, 0, none⟩)], .blk nb 9 [.string (bs nm)], .smap mb (kvE es), filsO es]] [.blk db 70 [.map (some mb), .bool pw, av], .grp [.blk pb 22 [vp], .blk qb 27 [.pointer (some ⟨db, 0, none⟩)], .blk nb 9 [.string (bs nm)], .smap mb (kvE (putE es ⟨nm, u.1, u.2, p, p.length⟩)), filsO (putE es ⟨nm, u.1, u.2, p, p.length⟩)]] := by
  have hpz := hp.mono hZ
  obtain ⟨Ap, cp, rfl, hp1, hp2⟩ := hp.row.form
  refine fun_of_sw Tryz.func39 rfl 14 rfl rfl ?_
  have hH : Hp w w (off w (blksOf [.blk db 70 [.map (some mb), .bool pw, av], .grp [.blk pb 22 [(.slice Ap p.length cp)], .blk qb 27 [.pointer (some ⟨db, 0, none⟩)], .blk nb 9 [.string (bs nm)], .smap mb (kvE es), filsO es]])) (blksOf [.blk db 70 [.map (some mb), .bool pw, av], .grp [.blk pb 22 [(.slice Ap p.length cp)], .blk qb 27 [.pointer (some ⟨db, 0, none⟩)], .blk nb 9 [.string (bs nm)], .smap mb (kvE es), filsO es]]) ([.blk pb 22 [(.slice Ap p.length cp)], .blk qb 27 [.pointer (some ⟨db, 0, none⟩)], .blk nb 9 [.string (bs nm)], .smap mb (kvE es), filsO es] ++ [.blk db 70 [.map (some mb), .bool pw, av]]) := ((Hp.start_mine hM).pick [1, 0] (by kernel_rfl) rfl).open_
  replace hH : Hp w w _ _ [.blk pb 22 [.slice Ap p.length cp], .blk qb 27 [Pp db 0], .blk nb 9 [.string (bs nm)], .smap mb (kvE es), filsO es, .blk db 70 [.map (some mb), .bool pw, av]] := hH
  refine sw_draw (by kernel_rfl) (fun w_ => Hp w w_ (off w (blksOf [.blk db 70 [.map (some mb), .bool pw, av], .grp [.blk pb 22 [(.slice Ap p.length cp)], .blk qb 27 [.pointer (some ⟨db, 0, none⟩)], .blk nb 9 [.string (bs nm)], .smap mb (kvE es), filsO es]])) (blksOf [.blk db 70 [.map (some mb), .bool pw, av], .grp [.blk pb 22 [(.slice Ap p.length cp)], .blk qb 27 [.pointer (some ⟨db, 0, none⟩)], .blk nb 9 [.string (bs nm)], .smap mb (kvE es), filsO es]]) [.blk pb 22 [.slice Ap p.length cp], .blk qb 27 [Pp db 0], .blk nb 9 [.string (bs nm)], filsO es, .blk db 70 [.map (some mb), .bool pw, av]]) ?_
  replace hH := hH.drew
  generalize { w with drawn := w.drawn + 1 } = w1 at hH ⊢
  have hS9 := hH.sublist (.cons_cons _ (.cons_cons _ (.cons_cons _ (.cons _ (.cons_cons _ (.cons_cons _ (List.nil_sublist _)))))))
  refine gd_q 0 rfl (by kernel_rfl) PQ.body hS9 rfl rfl (fun w_ hS => (rd_loadK 1 (by kernel_rfl) hS rfl rfl rfl)) ?_
  refine gd_pure 1 rfl (by kernel_rfl) PQ.body hS9 rfl rfl (Pp db 0) (by kernel_rfl) ?_
  refine gd_pure 2 rfl (by kernel_rfl) PQ.body hS9 rfl rfl (Pp db 0) (by kernel_rfl) ?_
  refine gd_keep [(0, Pp pb 0), (2, Pp nb 0), (5, Pp db 0)] (by kernel_rfl) ?_
  refine gd_q 3 rfl (by kernel_rfl) PQ.body hS9 rfl rfl (fun w_ hS => (rd_loadK 4 (by kernel_rfl) hS rfl rfl rfl)) ?_
  refine gd_q 4 rfl (by kernel_rfl) PQ.body hS9 rfl rfl (fun w_ hS => (rd_loadK 2 (by kernel_rfl) hS rfl rfl rfl)) ?_
  refine gd_q 5 rfl (by kernel_rfl) PQ.body hS9 rfl rfl (fun w_ hS => (rd_loadK 0 (by kernel_rfl) hS rfl rfl rfl)) ?_
  refine gd_keep [(0, Pp pb 0), (6, .map (some mb)), (7, .string (bs nm)), (8, .slice Ap p.length cp)] (by kernel_rfl) ?_
  refine gd_q 7 rfl (by kernel_rfl) PQ.body hS9 rfl rfl (fun w_ hS => (rd_loadK 0 (by kernel_rfl) hS rfl rfl rfl)) ?_
  refine gd_q 8 rfl (by kernel_rfl) PQ.body hS9 rfl rfl (fun w_ hS => (rd_len (e := 5) (by kernel_rfl) rfl)) ?_
  refine gd_st 6 (by kernel_rfl) (st_call rfl rfl rfl (by kernel_rfl) rfl (SClone_ct _ p _ (hpz.mono hH.zin) (by omega)) ?_)
  rintro _ w4 ⟨v2, rfl, hF5⟩
  replace hH := hH.call hF5; clear hF5
  obtain ⟨A6, c7, rfl, hl8, hm9⟩ := hH.row_form 6 rfl
  replace hH : Hp w w4 _ _ [.blk pb 22 [.slice Ap p.length cp], .blk qb 27 [Pp db 0], .blk nb 9 [.string (bs nm)], .smap mb (kvE es), filsO es, .blk db 70 [.map (some mb), .bool pw, av], .row (.slice A6 p.length c7) 5 1 p.length (bv p)] := hH
  replace hS9 := hH.sublist (.cons_cons _ (.cons_cons _ (.cons_cons _ (.cons _ (.cons_cons _ (.cons_cons _ (List.nil_sublist _)))))))
  refine ⟨hS9, ?_⟩
  refine gd_keep [(6, .map (some mb)), (7, .string (bs nm)), (9, .slice A6 p.length c7), (11, Ni p.length)] (by kernel_rfl) ?_
  refine gd_pure 9 rfl (by kernel_rfl) PQ.body hS9 rfl rfl (.agg #[.slice A6 p.length c7, Ni p.length]) (by kernel_rfl) ?_
  refine gd_st 10 (by kernel_rfl) (st_boxH (cs := [.slice A6 p.length c7, Ni p.length]) rfl rfl rfl rfl hH ?_)
  clear hH; intro b10 w11 hH
  replace hH : Hp w w11 _ _ [.blk pb 22 [.slice Ap p.length cp], .blk qb 27 [Pp db 0], .blk nb 9 [.string (bs nm)], .smap mb (kvE es), filsO es, .blk db 70 [.map (some mb), .bool pw, av], .row (.slice A6 p.length c7) 5 1 p.length (bv p), .blk b10 84 [.slice A6 p.length c7, Ni p.length]] := hH
  replace hS9 := hH.sublist (.cons_cons _ (.cons_cons _ (.cons_cons _ (.cons _ (.cons_cons _ (.cons_cons _ (List.nil_sublist _)))))))
  refine ⟨hS9, ?_⟩
  refine gd_keep [(6, .map (some mb)), (7, .string (bs nm)), (13, Pp b10 0)] (by kernel_rfl) ?_
  refine gd_st 11 (by kernel_rfl) (st_smput (kt := 9) (e := 82) (v := Pp b10 0) 3 rfl rfl rfl (by kernel_rfl) (by kernel_rfl) hH rfl rfl nm rfl rfl ?_)
  clear hH; intro w12 hH
  replace hH : Hp w w12 _ _ [.blk pb 22 [.slice Ap p.length cp], .blk qb 27 [Pp db 0], .blk nb 9 [.string (bs nm)], .smap mb (kput (kvE es) nm (Pp b10 0)), filsO es, .blk db 70 [.map (some mb), .bool pw, av], .row (.slice A6 p.length c7) 5 1 p.length (bv p), .blk b10 84 [.slice A6 p.length c7, Ni p.length]] := hH
  replace hS9 := hH.sublist (.cons_cons _ (.cons_cons _ (.cons_cons _ (.cons _ (.cons_cons _ (.cons_cons _ (List.nil_sublist _)))))))
  refine ⟨hS9, ?_⟩
  refine gd_keep [] (by kernel_rfl) ?_
  refine gd_done (by kernel_rfl) ?_
  refine at_sub [] (Sub.of_eq (by kernel_rfl)) ?_
  refine end0 rfl ?_
  replace hH := hH.pick [6, 0, 1, 2, 3, 4, 5, 7] (by kernel_rfl) (os' := [.row (.slice A6 p.length c7) 5 1 p.length (bv p), .blk pb 22 [.slice Ap p.length cp], .blk qb 27 [Pp db 0], .blk nb 9 [.string (bs nm)], .smap mb (kput (kvE es) nm (Pp b10 0)), filsO es, .blk db 70 [.map (some mb), .bool pw, av], .blk b10 84 [.slice A6 p.length c7, Ni p.length]]) (by kernel_rfl)
  replace hH := hH.to_vw
  replace hH := hH.pick [7, 0, 5, 1, 2, 3, 4, 6] (by kernel_rfl) (os' := [.blk b10 84 [.slice A6 p.length c7, Ni p.length], .vw (.slice A6 p.length c7) 5 p, filsO es, .blk pb 22 [.slice Ap p.length cp], .blk qb 27 [Pp db 0], .blk nb 9 [.string (bs nm)], .smap mb (kput (kvE es) nm (Pp b10 0)), .blk db 70 [.map (some mb), .bool pw, av]]) (by kernel_rfl)
  replace hH : Hp w w12 _ _ (f1O ⟨nm, b10, (.slice A6 p.length c7), p, p.length⟩ :: f2O ⟨nm, b10, (.slice A6 p.length c7), p, p.length⟩ :: filsO es :: [.blk pb 22 [.slice Ap p.length cp], .blk qb 27 [Pp db 0], .blk nb 9 [.string (bs nm)], .smap mb (kput (kvE es) nm (Pp b10 0)), .blk db 70 [.map (some mb), .bool pw, av]]) := hH
  replace hH := fil_put hH
  have hk : kput (kvE es) nm (.pointer (some ⟨b10, 0, none⟩)) = kvE (putE es ⟨nm, b10, (.slice A6 p.length c7), p, p.length⟩) := kput_kvE es ⟨nm, b10, (.slice A6 p.length c7), p, p.length⟩
  replace hH := hH.cast (os' := [filsO (putE es ⟨nm, b10, (.slice A6 p.length c7), p, p.length⟩), .blk pb 22 [.slice Ap p.length cp], .blk qb 27 [Pp db 0], .blk nb 9 [.string (bs nm)], .smap mb (kvE (putE es ⟨nm, b10, (.slice A6 p.length c7), p, p.length⟩)), .blk db 70 [.map (some mb), .bool pw, av]]) (by rw [hk])
  replace hH := hH.pick [1, 2, 3, 4, 0, 5] (by kernel_rfl) (os' := [.blk pb 22 [.slice Ap p.length cp], .blk qb 27 [Pp db 0], .blk nb 9 [.string (bs nm)], .smap mb (kvE (putE es ⟨nm, b10, (.slice A6 p.length c7), p, p.length⟩)), filsO (putE es ⟨nm, b10, (.slice A6 p.length c7), p, p.length⟩), .blk db 70 [.map (some mb), .bool pw, av]]) (by kernel_rfl)
  replace hH := (hH.sublist (.cons_cons _ (.cons_cons _ (.cons_cons _ (.cons_cons _ (.cons_cons _ (.cons_cons _ (List.nil_sublist _))))))))
  replace hH : Hp w w12 _ _ [.blk pb 22 [.slice Ap p.length cp], .blk qb 27 [Pp db 0], .blk nb 9 [.string (bs nm)], .smap mb (kvE (putE es ⟨nm, b10, (.slice A6 p.length c7), p, p.length⟩)), filsO (putE es ⟨nm, b10, (.slice A6 p.length c7), p, p.length⟩), .blk db 70 [.map (some mb), .bool pw, av]] := hH
  have h2 : Hp w w12 _ _ ([.blk pb 22 [.slice Ap p.length cp], .blk qb 27 [Pp db 0], .blk nb 9 [.string (bs nm)], .smap mb (kvE (putE es ⟨nm, b10, (.slice A6 p.length c7), p, p.length⟩)), filsO (putE es ⟨nm, b10, (.slice A6 p.length c7), p, p.length⟩)] ++ [.blk db 70 [.map (some mb), .bool pw, av]]) := hH
  exact ⟨(b10, (.slice A6 p.length c7)), rfl, (h2.close.pick [1, 0] (by kernel_rfl) rfl).turned⟩
theorem RemDo_ct (qb nb db mb : Nat) (pw : Bool) (av : Value) (es : List PE) (nm : List UInt8) (w : World) (hM : Mine w [.blk db 70 [.map (some mb), .bool pw, av], .grp [.blk qb 27 [.pointer (some ⟨db, 0, none⟩)], .blk nb 9 [.string (bs nm)], .smap mb (kvE es), filsO es]]) (hi : ixE es nm < es.length) :
    Fun Tryz.prog 46 [.pointer (some ⟨qb, 0, none⟩), .pointer (some ⟨nb, 0, none⟩)] w fun v w' => ∃ u : Unit, v = .tuple #[] ∧ Turn w w' [.blk db 70 [.map (some mb), .bool pw, av], .grp [.blk qb 27 [.pointer (some ⟨db, 0, none⟩)], .blk nb 9 [.string (bs nm)], .smap mb (kvE es), filsO es]] [.blk db 70 [.map (some mb), .bool pw, av], .grp [.blk qb 27 [.pointer (some ⟨db, 0, none⟩)], .blk nb 9 [.string (bs nm)], .smap mb (kvE (es.eraseIdx (ixE es nm))), filsO (es.eraseIdx (ixE es nm))]] := by
  refine fun_of_sw Tryz.func46 rfl 7 rfl rfl ?_
  have hH : Hp w w (off w (blksOf [.blk db 70 [.map (some mb), .bool pw, av], .grp [.blk qb 27 [.pointer (some ⟨db, 0, none⟩)], .blk nb 9 [.string (bs nm)], .smap mb (kvE es), filsO es]])) (blksOf [.blk db 70 [.map (some mb), .bool pw, av], .grp [.blk qb 27 [.pointer (some ⟨db, 0, none⟩)], .blk nb 9 [.string (bs nm)], .smap mb (kvE es), filsO es]]) ([.blk qb 27 [.pointer (some ⟨db, 0, none⟩)], .blk nb 9 [.string (bs nm)], .smap mb (kvE es), filsO es] ++ [.blk db 70 [.map (some mb), .bool pw, av]]) := ((Hp.start_mine hM).pick [1, 0] (by kernel_rfl) rfl).open_
  replace hH : Hp w w _ _ [.blk qb 27 [Pp db 0], .blk nb 9 [.string (bs nm)], .smap mb (kvE es), filsO es, .blk db 70 [.map (some mb), .bool pw, av]] := hH
  refine sw_draw (by kernel_rfl) (fun w_ => Hp w w_ (off w (blksOf [.blk db 70 [.map (some mb), .bool pw, av], .grp [.blk qb 27 [.pointer (some ⟨db, 0, none⟩)], .blk nb 9 [.string (bs nm)], .smap mb (kvE es), filsO es]])) (blksOf [.blk db 70 [.map (some mb), .bool pw, av], .grp [.blk qb 27 [.pointer (some ⟨db, 0, none⟩)], .blk nb 9 [.string (bs nm)], .smap mb (kvE es), filsO es]]) [.blk qb 27 [Pp db 0], .blk nb 9 [.string (bs nm)], filsO es, .blk db 70 [.map (some mb), .bool pw, av]]) ?_
  replace hH := hH.drew
  generalize { w with drawn := w.drawn + 1 } = w1 at hH ⊢
  have hS9 := hH.sublist (.cons_cons _ (.cons_cons _ (.cons _ (.cons_cons _ (.cons_cons _ (List.nil_sublist _))))))
  refine gd_q 0 rfl (by kernel_rfl) PQ.body hS9 rfl rfl (fun w_ hS => (rd_loadK 0 (by kernel_rfl) hS rfl rfl rfl)) ?_
  refine gd_pure 1 rfl (by kernel_rfl) PQ.body hS9 rfl rfl (Pp db 0) (by kernel_rfl) ?_
  refine gd_pure 2 rfl (by kernel_rfl) PQ.body hS9 rfl rfl (Pp db 0) (by kernel_rfl) ?_
  refine gd_keep [(1, Pp nb 0), (4, Pp db 0)] (by kernel_rfl) ?_
  refine gd_q 3 rfl (by kernel_rfl) PQ.body hS9 rfl rfl (fun w_ hS => (rd_loadK 3 (by kernel_rfl) hS rfl rfl rfl)) ?_
  refine gd_q 4 rfl (by kernel_rfl) PQ.body hS9 rfl rfl (fun w_ hS => (rd_loadK 1 (by kernel_rfl) hS rfl rfl rfl)) ?_
  refine gd_st 5 (by kernel_rfl) (st_smdel (kt := 9) (e := 82) 2 rfl rfl rfl (by kernel_rfl) (by kernel_rfl) hH rfl rfl nm rfl ?_)
  clear hH; intro w2 hH
  replace hS9 := hH.sublist (.cons_cons _ (.cons_cons _ (.cons _ (.cons_cons _ (.cons_cons _ (List.nil_sublist _))))))
  refine ⟨hS9, ?_⟩
  refine gd_keep [] (by kernel_rfl) ?_
  refine gd_done (by kernel_rfl) ?_
  refine at_sub [] (Sub.of_eq (by kernel_rfl)) ?_
  refine end0 rfl ?_
  replace hH := hH.pick [3, 0, 1, 2, 4] (by kernel_rfl) (os' := [filsO es, .blk qb 27 [Pp db 0], .blk nb 9 [.string (bs nm)], .smap mb (kdel (kvE es) nm), .blk db 70 [.map (some mb), .bool pw, av]]) (by kernel_rfl)
  replace hH := fil_del hi hH
  replace hH := hH.cast (os' := [filsO (es.eraseIdx (ixE es nm)), .blk qb 27 [Pp db 0], .blk nb 9 [.string (bs nm)], .smap mb (kvE (es.eraseIdx (ixE es nm))), .blk db 70 [.map (some mb), .bool pw, av]]) (by rw [kdel_kvE])
  replace hH := hH.pick [1, 2, 3, 0, 4] (by kernel_rfl) (os' := [.blk qb 27 [Pp db 0], .blk nb 9 [.string (bs nm)], .smap mb (kvE (es.eraseIdx (ixE es nm))), filsO (es.eraseIdx (ixE es nm)), .blk db 70 [.map (some mb), .bool pw, av]]) (by kernel_rfl)
  replace hH := (hH.sublist (.cons_cons _ (.cons_cons _ (.cons_cons _ (.cons_cons _ (.cons_cons _ (List.nil_sublist _)))))))
  replace hH : Hp w w2 _ _ [.blk qb 27 [Pp db 0], .blk nb 9 [.string (bs nm)], .smap mb (kvE (es.eraseIdx (ixE es nm))), filsO (es.eraseIdx (ixE es nm)), .blk db 70 [.map (some mb), .bool pw, av]] := hH
  have h2 : Hp w w2 _ _ ([.blk qb 27 [Pp db 0], .blk nb 9 [.string (bs nm)], .smap mb (kvE (es.eraseIdx (ixE es nm))), filsO (es.eraseIdx (ixE es nm))] ++ [.blk db 70 [.map (some mb), .bool pw, av]]) := hH
  exact ⟨(), rfl, (h2.close.pick [1, 0] (by kernel_rfl) rfl).turned⟩
end Go.Proofs.YtjcchjgkkplamaaGreatDoor
