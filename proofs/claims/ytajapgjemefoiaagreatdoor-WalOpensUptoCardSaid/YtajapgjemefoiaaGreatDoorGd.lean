/- Gd: several texts in one. -/
import Derived.Test.YtajapgjemefoiaaGreatDoorGc
import Derived.Test.YtajapgjemefoiaaGreatDoorGb
import Derived.Lib.ItoaNum
import Derived.Test.YtajapgjemefoiaaGreatDoorShelf
/- Layer 18 (disk), the document's own: Start, Do: what they answer. -/
set_option maxRecDepth 100000
set_option maxHeartbeats 4000000
set_option linter.unusedVariables false
set_option linter.unusedSimpArgs false
namespace Go.Proofs.YtajapgjemefoiaaGreatDoor
open Go.RowKit Go.SW
theorem cut_f {A : Option Addr} {l c n m : Nat} (h : n ≤ l) (h2 : l ≤ c) : CutOf (.slice A l c) m 0 n c (.slice A n c) := by
  refine ⟨A, l, c, rfl, Nat.zero_le _, by omega, Nat.le_refl _, ?_⟩
  cases A with
  | none => simp
  | some a => simp [add_zero]
theorem rb_front {c : Zone} {A : Option Addr} {l cap n : Nat} {b : List UInt8} (h : RB c (.slice A l cap) b) (hn : n ≤ b.length) : RB c (.slice A n cap) (b.take n) := by
  obtain ⟨h0, A', cap', e, h1, h2, h3⟩ := h
  cases e
  have hl : (b.take n).length = n := by simp [Nat.min_eq_left hn]
  refine ⟨by simp [bv], A, cap, by rw [hl], by omega, h2, fun j u hu => h3 j u ?_⟩
  have hj : j < n := by have := (List.getElem?_eq_some_iff.1 hu).1; simpa [bv, Nat.min_eq_left hn] using this
  rw [← hu]
  simp [bv, List.getElem?_take, hj]
section
variable {w w0 : World} {z : Zone} {F : List Nat} {r : List Own}
theorem rs_set {L : FV} {i : Nat} {q : Fil × Value} (hi : i < L.length) (h : Hp w0 w z F (filR q :: filRs L :: r)) : Hp w0 w z F (filRs (L.set i q) :: r) := by
  have h1 : Hp w0 w z F ([filR q] ++ (filRs L :: r)) := h
  have h2 : Hp w0 w z F (filRs L :: (r ++ [filR q])) := h1.perm List.perm_append_comm
  have h3 := Hp.out (l := L.map filR) h2 i (o := filR L[i]) (by rw [List.getElem?_map, List.getElem?_eq_getElem hi]; rfl)
  have h4 : Hp w0 w z F ((.grp ((L.map filR).eraseIdx i) :: r) ++ [filR q]) := h3.sublist (List.sublist_cons_self _ _)
  have h5 := Hp.into (l := L.map filR) (i := i) (by simpa using hi) (h4.perm List.perm_append_comm)
  refine h5.cast ?_
  unfold filRs
  rw [List.map_set]
theorem rs_perm {L L' : FV} {q : Fil × Value} (hp : (q :: L).Perm L') (h : Hp w0 w z F (filR q :: filRs L :: r)) : Hp w0 w z F (filRs L' :: r) := by
  have h1 : Hp w0 w z F (filRs L :: (filR q :: r)) := h.perm (List.Perm.swap _ _ _)
  have h2 : Hp w0 w z F (L.map filR ++ (filR q :: r)) := h1.open_
  have h3 : Hp w0 w z F (L'.map filR ++ r) := h2.perm (List.perm_middle.trans (by
    have := (hp.map filR).append_right r
    simpa using this))
  exact h3.close
theorem rs_setL {L : FV} {q : Fil × Value} (h : Hp w0 w z F (filR q :: filRs L :: r)) : Hp w0 w z F (filRs (setL L q) :: r) := by
  unfold setL
  split
  · rename_i hlt; exact rs_set hlt h
  · refine rs_perm ?_ h
    rw [List.append_assoc]
    have h1 : (q :: L).Perm (q :: (L.take (insK L q.1.name) ++ L.drop (insK L q.1.name))) := by rw [List.take_append_drop]
    exact h1.trans List.perm_middle.symm
theorem rs_del {L : FV} (nm : List UInt8) (h : Hp w0 w z F (filRs L :: r)) : Hp w0 w z F (filRs (delL L nm) :: r) := by
  have h2 : Hp w0 w z F (L.map filR ++ r) := Hp.open_ h
  have h3 : Hp w0 w z F ((delL L nm).map filR ++ r) := h2.sublist (List.Sublist.append_right (by rw [delL_eq]; exact (List.eraseIdx_sublist _ _).map _) _)
  exact h3.close
theorem rs_same {L : FV} {g q : Fil × Value} (hlt : fndI L g.1.name < L.length) (hq : L[fndI L g.1.name]? = some q) (e : filR g = filR q) (h : Hp w0 w z F (filRs L :: r)) : Hp w0 w z F (filRs (setL L g) :: r) := by
  refine h.cast ?_
  unfold setL filRs
  rw [if_pos hlt, List.map_set, e]
  congr 2
  apply List.ext_getElem?
  intro j
  rw [List.getElem?_set]
  split
  · rename_i h; subst h
    rw [if_pos (by simpa using hlt), List.getElem?_map, hq]; rfl
  · rfl
end
theorem filRs_rb3 {w w0 : World} {z : Zone} {F : List Nat} {os : List Own} (hH : Hp w0 w z F os) (k : Nat) {L : FV} (hk : os[k]? = some (filRs L)) {i : Nat} {nm b : List UInt8} {sr : Nat} {v : Value} (hq : L[i]? = some (⟨nm, b, sr⟩, v)) : RB w.cell? v b := filRs_rb hH k hk hq
theorem rdk_find {D : Dsk} {L : FV} (hF : L.map (·.1) = D.fs) {nm : List UInt8} (hlt : fndI L nm < L.length) : ∃ b sr fv, L[fndI L nm]? = some (⟨nm, b, sr⟩, fv) ∧ oldF D.fs nm = ⟨nm, b, sr⟩ ∧ (⟨nm, b, sr⟩ : Fil) ∈ D.fs := by
  obtain ⟨⟨⟨fn, b, sr⟩, fv⟩, h1, h2⟩ := fnd_at hlt
  simp only at h2
  have h3 := h2.symm
  subst h3
  refine ⟨b, sr, fv, h1, ?_, by rw [← hF]; exact List.mem_map.2 ⟨_, List.mem_of_getElem? h1, rfl⟩⟩
  unfold oldF
  rw [← fnd_get hF, h1]; rfl
theorem rdk_no {D : Dsk} {L : FV} (hF : L.map (·.1) = D.fs) {nm : List UInt8} (hlt : ¬ fndI L nm < L.length) : oldF D.fs nm = ⟨nm, [], 0⟩ := by
  unfold oldF
  rw [← fnd_get hF, List.getElem?_eq_none (by omega)]; rfl
theorem rdk_lt {D : Dsk} {L : FV} (hF : L.map (·.1) = D.fs) {nm : List UInt8} (h : mayE D nm true = 0) : fndI L nm < L.length := by
  obtain ⟨_, _, _, _, h1, _⟩ := rdk_read hF h
  exact h1
abbrev ownR (xb : Nat) (rv : Value) (D : Dsk) (part : Int) (L : FV) : List Own := [.grp (rdkO xb rv D.off (actsI D.ar) part L)]
def RPost (xb : Nat) (rv : Value) (D : Dsk) (part : Int) (L : FV) (R : Dsk × Nat) (w : World) (v : Value) (w' : World) : Prop :=
  ∃ rv' L', v = .int .i64 ((R.2 : Nat) : Int) ∧ L'.map (·.1) = R.1.fs ∧ Turn w w' (ownR xb rv D part L) (ownR xb rv' R.1 part L')
section
variable {w w' : World} {xb : Nat} {rv rv' : Value} {D D2 : Dsk} {part : Int} {L L' : FV} {kind : Nat} {nm p : List UInt8} {n : Int} {th cu : Bool} {pt : Int}
theorem rfin_err (hF : L.map (·.1) = D.fs) (ht : decide (kind ≠ 0 ∧ kind ≠ 2) = th) (h : mayE D nm th ≠ 0) (hT : Turn w w' (ownR xb rv D part L) (ownR xb rv D part L)) : RPost xb rv D part L (doD D kind nm p n) w (.int .i64 ((mayE D nm th : Nat) : Int)) w' := by
  rw [doD_err ht h]
  exact ⟨rv, L, rfl, hF, hT⟩
theorem rfin_arg (hF : L.map (·.1) = D.fs) (h : mayE D nm true = 0) (h2 : n < 0 ∨ ((oldF D.fs nm).b.length : Int) < n) (hT : Turn w w' (ownR xb rv D part L) (ownR xb rv D part L)) : RPost xb rv D part L (doD D 3 nm p n) w (.int .i64 1) w' := by
  have e : doD D 3 nm p n = (D, 1) := by
    unfold doD
    rw [show decide ((3 : Nat) ≠ 0 ∧ (3 : Nat) ≠ 2) = true from rfl, if_neg (by rw [h]; simp), if_pos ⟨rfl, h2⟩]
  rw [e]
  exact ⟨rv, L, rfl, hF, hT⟩
theorem rfin_do (q : List UInt8) (e : Nat) (he : e = if cu = true then 80 else 0) (ht : decide (kind ≠ 0 ∧ kind ≠ 2) = th) (h : mayE D nm th = 0) (h2 : ¬ (kind = 3 ∧ (n < 0 ∨ ((oldF D.fs nm).b.length : Int) < n))) (hc : cutD D = (D2, cu, pt)) (hrun : cu = false ∨ kind = 0 ∨ modI pt 2 = 1) (hq : q = if cu = true ∧ kind = 0 then p.take (modI pt (p.length + 1)) else p)
    (hL : L'.map (·.1) = doF D.fs kind nm q n.toNat) (hT : Turn w w' (ownR xb rv D part L) [.grp (rdkO xb rv' D2.off (actsI D2.ar) part L')]) : RPost xb rv D part L (doD D kind nm p n) w (.int .i64 ((e : Nat) : Int)) w' := by
  rw [doD_ok ht h h2 hc]
  subst he
  refine ⟨rv', L', rfl, ?_, hT⟩
  show L'.map (·.1) = if cu = false ∨ kind = 0 ∨ modI pt 2 = 1 then doF D.fs kind nm (if cu = true ∧ kind = 0 then p.take (modI pt (p.length + 1)) else p) n.toNat else D.fs
  rw [if_pos hrun, ← hq, hL]
theorem rfin_not (hF : L.map (·.1) = D.fs) (e : Nat) (he : e = if cu = true then 80 else 0) (ht : decide (kind ≠ 0 ∧ kind ≠ 2) = th) (h : mayE D nm th = 0) (h2 : ¬ (kind = 3 ∧ (n < 0 ∨ ((oldF D.fs nm).b.length : Int) < n))) (hc : cutD D = (D2, cu, pt)) (hrun : ¬ (cu = false ∨ kind = 0 ∨ modI pt 2 = 1))
    (hT : Turn w w' (ownR xb rv D part L) [.grp (rdkO xb rv D2.off (actsI D2.ar) part L)]) : RPost xb rv D part L (doD D kind nm p n) w (.int .i64 ((e : Nat) : Int)) w' := by
  rw [doD_ok ht h h2 hc]
  subst he
  refine ⟨rv, L, rfl, ?_, hT⟩
  show L.map (·.1) = if cu = false ∨ kind = 0 ∨ modI pt 2 = 1 then doF D.fs kind nm (if cu = true ∧ kind = 0 then p.take (modI pt (p.length + 1)) else p) n.toNat else D.fs
  rw [if_neg hrun, hF]
end

end Go.Proofs.YtajapgjemefoiaaGreatDoor
/- Layer 18 (disk), the document's own: Do: Append, Sync, Cut: what it answers. -/
set_option maxRecDepth 100000
set_option maxHeartbeats 4000000
set_option linter.unusedVariables false
set_option linter.unusedSimpArgs false
namespace Go.Proofs.YtajapgjemefoiaaGreatDoor
open Go.RowKit Go.SW

theorem RDo0_ct (xb : Nat) (rv : Value) (D : Dsk) (part : Int) (L : FV) (nm : List UInt8) (vp : Value) (p : List UInt8) (n : Int) (M : Nat) (w : World) (hM : Mine w (ownR xb rv D part L)) (hF : L.map (·.1) = D.fs) (hA : ArOk D.ar) (hP : PartOk D.ar part) (hG : Good D.fs M) (hMM : M ≤ 4194304) (hN : L.length ≤ 900000) (hs : nm.length ≤ 140737488355328) (hp : RB (off w (blksOf (ownR xb rv D part L))) vp p) (hpl : p.length ≤ 1048576) :
    Fun Tryz.prog 11 [.pointer (some ⟨xb, 0, none⟩), .int .i64 0, .string (bs nm), vp, .int .i64 n] w fun v w' => RPost xb rv D part L (doD D 0 nm p n) w v w' := by
 obtain ⟨Ar, cr, rfl, hcr1, hcr2⟩ := (Row.of_own (hM.1 _ (List.mem_singleton.2 rfl) (lstO rv L) (by simp [rdkO]))).form
 have hcr3 := hcr2
 simp only [maxLen] at hcr3
 have hV : SlQ L := filRs_sl (hM.1 _ (List.mem_singleton.2 rfl) (filRs L) (by simp [rdkO]))
 obtain ⟨Ap, cp, rfl, hp1, hp2⟩ := hp.row.form
 refine fun_of_sw Tryz.func11 rfl 132 rfl rfl ?_
 have hH : Hp w w (off w (blksOf (ownR xb (.slice Ar L.length cr) D part L))) (blksOf (ownR xb (.slice Ar L.length cr) D part L)) (rdkO xb (.slice Ar L.length cr) D.off (actsI D.ar) part L ++ []) := (Hp.start_mine hM).open_
 replace hH : Hp w w _ _ [.blk xb 72 [.slice Ar L.length cr, .bool D.off, .int .i64 (actsI D.ar), .int .i64 part], .row (.slice Ar L.length cr) 83 3 L.length (rowC filC L), filRs L] := hH
 refine sw_sr <| Go0 1 <| Dn <| sw_sr <| Go3 8 16 (Pp xb 0) 17 (.string (bs nm)) 23 (.bool false) <| gl_st (Sc rfl rfl (RMay18_ct xb _ L D nm false _ (hH.blk_cell 0 rfl rfl) (hH.blk_cell 0 rfl rfl) (hH.row_reads 1 rfl) hF hs) ?_)
 rintro _ w1 ⟨rfl, hF2⟩
 replace hH := hH.call hF2
 refine Go1 1 11 (Ni (mayE D nm false)) <| Dn <| sw_seq <| sw_sr <| Go1 2 26 (.bool (((mayE D nm false : Nat) : Int) != (0 : Int))) <| Dn <| If rfl (fun hc1 => ?_) (fun hc1 => ?_)
 refine sw_sr <| Go1 2 10 (Ni (mayE D nm false)) <| Dn <| Rt1 rfl rfl ?_
 replace hH := (hH.sb (slk (slk (slk sln)))).n3
 exact rfin_err (kind := 0) (th := false) hF rfl (by omega) ((hH.close (r := [])).turned)
 have hm0 : mayE D nm false = 0 := by omega
 refine Sk <| sw_sr <| Go1 2 29 (.agg #[.string (bs nm), .slice none 0 0, .int .i64 0]) <| gl_st (Alc [.string (bs []), .slice none 0 0, .int .i64 0] rfl hH ?_)
 clear hH; intro b3 w4 hH
 refine gl_st (Ka 3 [.string (bs nm), .slice none 0 0, .int .i64 0] [.string (bs nm), .slice none 0 0, .int .i64 0] rfl hH rfl rfl ?_)
 clear hH; intro w5 hH
 refine Dn <| sw_sr <| Go2 2 30 (Pp xb 0) 31 (.string (bs nm)) <| gl_st (Sc rfl rfl (RFind_ct xb _ L nm _ (hH.blk_cell 0 rfl rfl) (hH.row_reads 1 rfl)) ?_)
 rintro _ w6 ⟨rfl, hF7⟩
 replace hH := hH.call hF7
 refine Go1 1 13 (.int .i64 (fndZ L nm)) <| Dn <| sw_seq <| sw_sr <| Go1 2 34 (.bool (decide ((fndZ L nm) ≥ (0 : Int)))) <| Dn <| If rfl (fun hc2 => ?_) (fun hc2 => ?_)
 have hlt : fndI L nm < L.length := by refine Classical.byContradiction fun h9 => ?_; unfold fndZ at hc2; rw [if_neg h9] at hc2; omega
 obtain ⟨b, sr, fv, hq, hold, hmem⟩ := rdk_find hF hlt
 obtain ⟨Af, cf, rfl, hf1, hf2⟩ := (filRs_rb3 hH 2 rfl hq).row.form
 have hbM := hG.short _ hmem
 have hsr := hG.sure _ hmem
 simp only at hbM hsr
 refine sw_cv 13 (Ni (fndI L nm)) (by unfold fndZ; rw [if_pos hlt]) rfl <| sw_region <| Go1 3 37 (Pp xb 0) <| Gq rfl (Lk 0 hH rfl rfl rfl) ?_
 obtain ⟨b9, hb8, hi10⟩ := hH.row_idx 1 rfl (fndI L nm) (by omega)
 refine Go1 1 39 (Ni (fndI L nm)) <| Gq rfl (Ix (e := 83) 3 rfl rfl hi10) <| Gq rfl (rd_loadOA (q := 3) 1 (by kernel_rfl) hH rfl rfl hb8 (by kernel_rfl) [.string (bs nm), .slice Af b.length cf, Ni sr] rfl (rowC_allO filC_len hq _ rfl)) <| gl_st (Ka 3 [.string (bs nm), .slice Af b.length cf, Ni sr] [.string (bs nm), .slice Af b.length cf, Ni sr] rfl hH rfl rfl ?_)
 clear hH; intro w11 hH
 refine Dd <| sw_next <| sw_seq <| sw_sr <| Go1 13 54 (.bool false) <| Dn <| Iz <| sw_skip <| sw_next <| sw_sr <| Go1 3 57 (Pp xb 3) <| Gq rfl (Lk 0 hH rfl rfl rfl) <| Go1 1 14 (.int .i64 part) <| Dn <| sw_sr ?_
 obtain ⟨D2, cu, pt, hcut⟩ : ∃ D2 cu pt, cutD D = (D2, cu, pt) := ⟨_, _, _, rfl⟩
 refine Go1 1 59 (Pp xb 0) ?_
 replace hH : Hp w w11 _ _ ([_] ++ [_, _, _]) := hH
 refine gl_st (Sc rfl rfl (RAct_ct xb _ D D2 cu pt part _ hcut hA hH.mine) ?_)
 rintro _ w12 ⟨rfl, hF13⟩
 replace hH := hH.turns hF13
 replace hH := hH.n4
 refine glo 1 [(0, Pp xb 0), (1, .int .i64 0), (2, .string (bs nm)), (3, .slice Ap p.length cp), (4, .int .i64 n), (12, Pp b3 0), (14, .int .i64 part), (15, .bool cu)] <| Dn <| sw_seq <| sw_sr <| Go1 2 62 (.bool cu) <| gl_split 62 (b := cu) rfl (fun hg4 => ?_) (fun hg4 => ?_)
 refine gl_cv 15 (.bool true) (by rw [hg4]) rfl ?_
 subst hg4
 have hpt := cut_part hcut hP rfl
 refine Go1 3 65 (.bool true) <| Dn <| It <| sw_region <| Go3 3 66 (.slice Ap p.length cp) 67 (.int .i64 part) 68 (.slice Ap p.length cp) <| Gq rfl (Ln (e := 5) rfl) <| Gw0 1 70 (((p.length : Nat) : Int) + 1) ((p.length + 1 : Nat) : Int) <| gl_st (Sc rfl rfl (RMod_ct part (p.length + 1) _ (by omega) (by omega)) ?_)
 rintro _ w14 ⟨rfl, hF15⟩
 replace hH := hH.call hF15
 have hmod := modI_lt part (show 0 < p.length + 1 by omega)
 obtain ⟨A16, hk17, hv18⟩ := hp.row.cut (by decide) 0 (modI part (p.length + 1)) (by omega) (by omega)
 refine Gq rfl (rd_cut (e := 5) (m := 1) (by kernel_rfl) (by kernel_rfl) rfl (.inl ⟨rfl, rfl⟩) (.inr ⟨_, _, rfl, rfl⟩) hk17) ?_
 have hr19 := RB.head hv18 (by omega)
 refine Go1 1 3 (.slice A16 ((modI part (p.length + 1)) - 0) (cp - 0)) <| Dd <| sw_next <| sw_seq <| sw_sr <| Go1 11 83 (.bool true) <| Dn <| It <| sw_seq <| sw_sr <| Go1 1 84 (.int .i64 0) <| Dn <| sw_block <| sw_sr <| Go1 2 85 (.bool true) <| Dn <| It <| sw_region <| gl_st (st_buildS0 (e := 5) (m := 1) rfl rfl rfl (by kernel_rfl) (by kernel_rfl) hH ?_)
 clear hH; intro b20 w21 hH
 refine Go1 1 88 (Pp b3 1) <| Gq rfl (Lk 2 hH rfl rfl rfl) <| gl_st (Apd (e := 5) (.int .u8 0) 1 1 4 rfl hH rfl rfl rfl (filRs_rb3 hH 1 rfl hq).row (bv_one _) (by unfold maxLen; omega) (by omega) ?_)
 clear hH; intro v22 w23 hH
 replace hH := hH.row_eq 4 (l' := b.length) (xs' := bv b) rfl (Nat.zero_add _) (List.nil_append _)
 obtain ⟨A24, c25, rfl, hl26, hm27⟩ := hH.row_form 4 rfl
 refine Go1 1 91 (.slice A16 ((modI part (p.length + 1)) - 0) (cp - 0)) <| gl_st (Apd (e := 5) (.int .u8 0) 1 1 4 rfl hH rfl rfl rfl (hr19.row.mono hH.zin) (bv_one _) (by (try simp only [List.length_append, List.length_take, List.length_nil]); unfold maxLen; omega) (by (try simp only [List.length_append, List.length_take, List.length_nil]); omega) ?_)
 clear hH; intro v28 w29 hH
 replace hH := hH.row_eq 4 (l' := (b ++ (p.take (modI part (p.length + 1)))).length) (xs' := bv (b ++ (p.take (modI part (p.length + 1))))) rfl (by simp only [List.length_append, List.length_cons, List.length_nil] <;> omega) ((bv_append _ _).symm)
 obtain ⟨A30, c31, rfl, hl32, hm33⟩ := hH.row_form 4 rfl
 refine Go1 1 93 (Pp b3 1) <| gl_st (Ks 2 (.slice A30 ((b ++ (p.take (modI part (p.length + 1)))).length) c31) rfl hH rfl rfl ?_)
 clear hH; intro w34 hH
 refine Dd <| bkN <| sw_next <| sw_sr <| Go1 2 124 (.bool false) <| Dn <| Iz <| sw_region <| glo 1 [(12, Pp b3 0), (15, .bool true), (128, Pp xb 0)] <| Gq rfl (La 2 [.string (bs nm), .slice A30 ((b ++ (p.take (modI part (p.length + 1)))).length) c31, Ni sr] hH rfl rfl) ?_
 replace hH : Hp w w34 _ _ ([_, _] ++ [_, _, _]) := hH.fr4
 refine gl_st (Sc rfl rfl (RSet_ct xb _ L (⟨nm, (b ++ (p.take (modI part (p.length + 1)))), sr⟩, Value.slice A30 ((b ++ (p.take (modI part (p.length + 1)))).length) c31) _ _ _ _ hH.mine ⟨_, _, _, rfl⟩ hV (by omega)) ?_)
 rintro _ w35 ⟨rv2, rfl, hF36⟩
 replace hH := hH.turns hF36
 replace hH := hH.n5
 refine Dd <| sw_next <| sw_seq <| sw_sr <| Go1 1 131 (.bool true) <| Dn <| It <| sw_sr <| Go1 1 10 (.int .i64 80) <| Dn <| Rt1 rfl rfl ?_
 replace hH := hH.fr3
 replace hH : Hp w w35 _ _ (filR (⟨nm, (b ++ (p.take (modI part (p.length + 1)))), sr⟩, Value.slice A30 ((b ++ (p.take (modI part (p.length + 1)))).length) c31) :: filRs L :: [.blk b3 83 [.string (bs nm), .slice A30 ((b ++ (p.take (modI part (p.length + 1)))).length) c31, Ni sr], .blk xb 72 [rv2, .bool D2.off, .int .i64 (actsI D2.ar), .int .i64 part], lstO rv2 (setL L (⟨nm, (b ++ (p.take (modI part (p.length + 1)))), sr⟩, Value.slice A30 ((b ++ (p.take (modI part (p.length + 1)))).length) c31))]) := hH
 replace hH := rs_setL hH
 replace hH := hH.fr4.fr4
 replace hH := (hH.sb (slk (slk (slk sln)))).n3
 exact rfin_do (kind := 0) (th := false) (L' := setL L (⟨nm, (b ++ (p.take (modI part (p.length + 1)))), sr⟩, Value.slice A30 ((b ++ (p.take (modI part (p.length + 1)))).length) c31)) (rv' := rv2) (p.take (modI part (p.length + 1))) 80 (by simp) rfl hm0 (fun h => absurd h.1 (by decide)) hcut (.inr (.inl rfl)) (by rw [hpt]; simp) (by rw [setL_fs hF hG.srt]; unfold doF; rw [hold] <;> rfl) ((hH.close (r := [])).turned)
 refine gl_cv 15 (.bool false) (by rw [hg4]) rfl ?_
 subst hg4
 refine Go1 3 65 (.bool false) <| Dn <| Iz <| sw_skip <| sw_next <| sw_seq <| sw_sr <| Go1 11 83 (.bool true) <| Dn <| It <| sw_seq <| sw_sr <| Go1 1 84 (.int .i64 0) <| Dn <| sw_block <| sw_sr <| Go1 2 85 (.bool true) <| Dn <| It <| sw_region <| gl_st (st_buildS0 (e := 5) (m := 1) rfl rfl rfl (by kernel_rfl) (by kernel_rfl) hH ?_)
 clear hH; intro b37 w38 hH
 refine Go1 1 88 (Pp b3 1) <| Gq rfl (Lk 2 hH rfl rfl rfl) <| gl_st (Apd (e := 5) (.int .u8 0) 1 1 4 rfl hH rfl rfl rfl (filRs_rb3 hH 1 rfl hq).row (bv_one _) (by unfold maxLen; omega) (by omega) ?_)
 clear hH; intro v39 w40 hH
 replace hH := hH.row_eq 4 (l' := b.length) (xs' := bv b) rfl (Nat.zero_add _) (List.nil_append _)
 obtain ⟨A41, c42, rfl, hl43, hm44⟩ := hH.row_form 4 rfl
 refine Go1 1 91 (.slice Ap p.length cp) <| gl_st (Apd (e := 5) (.int .u8 0) 1 1 4 rfl hH rfl rfl rfl (hp.row.mono hH.zin) (bv_one _) (by (try simp only [List.length_append, List.length_take, List.length_nil]); unfold maxLen; omega) (by (try simp only [List.length_append, List.length_take, List.length_nil]); omega) ?_)
 clear hH; intro v45 w46 hH
 replace hH := hH.row_eq 4 (l' := (b ++ p).length) (xs' := bv (b ++ p)) rfl (by simp only [List.length_append, List.length_cons, List.length_nil] <;> omega) ((bv_append _ _).symm)
 obtain ⟨A47, c48, rfl, hl49, hm50⟩ := hH.row_form 4 rfl
 refine Go1 1 93 (Pp b3 1) <| gl_st (Ks 2 (.slice A47 ((b ++ p).length) c48) rfl hH rfl rfl ?_)
 clear hH; intro w51 hH
 refine Dd <| bkN <| sw_next <| sw_sr <| Go1 2 124 (.bool false) <| Dn <| Iz <| sw_region <| Go1 1 128 (Pp xb 0) <| Gq rfl (La 2 [.string (bs nm), .slice A47 ((b ++ p).length) c48, Ni sr] hH rfl rfl) ?_
 replace hH : Hp w w51 _ _ ([_, _] ++ [_, _, _]) := hH.fr4
 refine gl_st (Sc rfl rfl (RSet_ct xb _ L (⟨nm, (b ++ p), sr⟩, Value.slice A47 ((b ++ p).length) c48) _ _ _ _ hH.mine ⟨_, _, _, rfl⟩ hV (by omega)) ?_)
 rintro _ w52 ⟨rv2, rfl, hF53⟩
 replace hH := hH.turns hF53
 replace hH := hH.n5
 refine Dd <| sw_next <| sw_seq <| sw_sr <| Go1 1 131 (.bool false) <| Dn <| Iz <| sw_skip <| sw_next <| sw_sr <| Go1 1 10 (.int .i64 0) <| Dn <| Rt1 rfl rfl ?_
 replace hH := hH.fr3
 replace hH : Hp w w52 _ _ (filR (⟨nm, (b ++ p), sr⟩, Value.slice A47 ((b ++ p).length) c48) :: filRs L :: [.blk b3 83 [.string (bs nm), .slice A47 ((b ++ p).length) c48, Ni sr], .blk xb 72 [rv2, .bool D2.off, .int .i64 (actsI D2.ar), .int .i64 part], lstO rv2 (setL L (⟨nm, (b ++ p), sr⟩, Value.slice A47 ((b ++ p).length) c48))]) := hH
 replace hH := rs_setL hH
 replace hH := hH.fr4.fr4
 replace hH := (hH.sb (slk (slk (slk sln)))).n3
 exact rfin_do (kind := 0) (th := false) (L' := setL L (⟨nm, (b ++ p), sr⟩, Value.slice A47 ((b ++ p).length) c48)) (rv' := rv2) (p) 0 (by simp) rfl hm0 (fun h => absurd h.1 (by decide)) hcut (.inl rfl) (by simp) (by rw [setL_fs hF hG.srt]; unfold doF; rw [hold] <;> rfl) ((hH.close (r := [])).turned)
 have hlt : ¬ fndI L nm < L.length := by intro h9; unfold fndZ at hc2; rw [if_pos h9] at hc2; omega
 have hold := rdk_no hF hlt
 refine Sk <| sw_seq <| sw_sr <| Go1 13 54 (.bool false) <| Dn <| Iz <| sw_skip <| sw_next <| sw_sr <| Go1 3 57 (Pp xb 3) <| Gq rfl (Lk 0 hH rfl rfl rfl) <| Go1 1 14 (.int .i64 part) <| Dn <| sw_sr ?_
 obtain ⟨D2, cu, pt, hcut⟩ : ∃ D2 cu pt, cutD D = (D2, cu, pt) := ⟨_, _, _, rfl⟩
 refine Go1 1 59 (Pp xb 0) ?_
 replace hH : Hp w w6 _ _ ([_] ++ [_, _, _]) := hH
 refine gl_st (Sc rfl rfl (RAct_ct xb _ D D2 cu pt part _ hcut hA hH.mine) ?_)
 rintro _ w54 ⟨rfl, hF55⟩
 replace hH := hH.turns hF55
 replace hH := hH.n4
 refine Go1 1 15 (.bool cu) <| Dn <| sw_seq <| sw_sr <| Go1 2 62 (.bool cu) <| gl_split 62 (b := cu) rfl (fun hg16 => ?_) (fun hg16 => ?_)
 refine gl_cv 15 (.bool true) (by rw [hg16]) rfl ?_
 subst hg16
 have hpt := cut_part hcut hP rfl
 refine Go1 3 65 (.bool true) <| Dn <| It <| sw_region <| glo 3 [(0, Pp xb 0), (1, .int .i64 0), (2, .string (bs nm)), (4, .int .i64 n), (12, Pp b3 0), (14, .int .i64 part), (15, .bool true), (66, .slice Ap p.length cp), (67, .int .i64 part), (68, .slice Ap p.length cp)] <| Gq rfl (Ln (e := 5) rfl) <| Gw0 1 70 (((p.length : Nat) : Int) + 1) ((p.length + 1 : Nat) : Int) <| gl_st (Sc rfl rfl (RMod_ct part (p.length + 1) _ (by omega) (by omega)) ?_)
 rintro _ w56 ⟨rfl, hF57⟩
 replace hH := hH.call hF57
 have hmod := modI_lt part (show 0 < p.length + 1 by omega)
 obtain ⟨A58, hk59, hv60⟩ := hp.row.cut (by decide) 0 (modI part (p.length + 1)) (by omega) (by omega)
 refine Gq rfl (rd_cut (e := 5) (m := 1) (by kernel_rfl) (by kernel_rfl) rfl (.inl ⟨rfl, rfl⟩) (.inr ⟨_, _, rfl, rfl⟩) hk59) ?_
 have hr61 := RB.head hv60 (by omega)
 refine Go1 1 3 (.slice A58 ((modI part (p.length + 1)) - 0) (cp - 0)) <| Dd <| sw_next <| sw_seq <| sw_sr <| Go1 11 83 (.bool true) <| Dn <| It <| sw_seq <| sw_sr <| Go1 1 84 (.int .i64 0) <| Dn <| sw_block <| sw_sr <| Go1 2 85 (.bool true) <| Dn <| It <| sw_region <| gl_st (st_buildS0 (e := 5) (m := 1) rfl rfl rfl (by kernel_rfl) (by kernel_rfl) hH ?_)
 clear hH; intro b62 w63 hH
 refine Go1 1 88 (Pp b3 1) <| Gq rfl (Lk 2 hH rfl rfl rfl) <| gl_st (Apd (e := 5) (.int .u8 0) 1 1 4 rfl hH rfl rfl rfl (Row.nil _ _) (by simp) (by unfold maxLen; omega) (by omega) ?_)
 clear hH; intro v64 w65 hH
 replace hH := hH.row_eq 4 (l' := ([] : List UInt8).length) (xs' := bv ([] : List UInt8)) rfl (Nat.zero_add _) (List.nil_append _)
 obtain ⟨A66, c67, rfl, hl68, hm69⟩ := hH.row_form 4 rfl
 refine Go1 1 91 (.slice A58 ((modI part (p.length + 1)) - 0) (cp - 0)) <| gl_st (Apd (e := 5) (.int .u8 0) 1 1 4 rfl hH rfl rfl rfl (hr61.row.mono hH.zin) (bv_one _) (by (try simp only [List.length_append, List.length_take, List.length_nil]); unfold maxLen; omega) (by (try simp only [List.length_append, List.length_take, List.length_nil]); omega) ?_)
 clear hH; intro v70 w71 hH
 replace hH := hH.row_eq 4 (l' := (([] : List UInt8) ++ (p.take (modI part (p.length + 1)))).length) (xs' := bv (([] : List UInt8) ++ (p.take (modI part (p.length + 1))))) rfl (by simp only [List.length_append, List.length_cons, List.length_nil] <;> omega) ((bv_append _ _).symm)
 obtain ⟨A72, c73, rfl, hl74, hm75⟩ := hH.row_form 4 rfl
 refine Go1 1 93 (Pp b3 1) <| gl_st (Ks 2 (.slice A72 ((([] : List UInt8) ++ (p.take (modI part (p.length + 1)))).length) c73) rfl hH rfl rfl ?_)
 clear hH; intro w76 hH
 refine Dd <| bkN <| sw_next <| sw_sr <| Go1 2 124 (.bool false) <| Dn <| Iz <| sw_region <| Go1 1 128 (Pp xb 0) <| Gq rfl (La 2 [.string (bs nm), .slice A72 ((([] : List UInt8) ++ (p.take (modI part (p.length + 1)))).length) c73, .int .i64 0] hH rfl rfl) ?_
 replace hH : Hp w w76 _ _ ([_, _] ++ [_, _, _]) := hH.fr4
 refine gl_st (Sc rfl rfl (RSet_ct xb _ L (⟨nm, (([] : List UInt8) ++ (p.take (modI part (p.length + 1)))), 0⟩, Value.slice A72 ((([] : List UInt8) ++ (p.take (modI part (p.length + 1)))).length) c73) _ _ _ _ hH.mine ⟨_, _, _, rfl⟩ hV (by omega)) ?_)
 rintro _ w77 ⟨rv2, rfl, hF78⟩
 replace hH := hH.turns hF78
 replace hH := hH.n5
 refine Dd <| sw_next <| sw_seq <| sw_sr <| glo 1 [(131, .bool true)] <| Dn <| It <| sw_sr <| Go1 1 10 (.int .i64 80) <| Dn <| Rt1 rfl rfl ?_
 replace hH := hH.fr3
 replace hH : Hp w w77 _ _ (filR (⟨nm, (([] : List UInt8) ++ (p.take (modI part (p.length + 1)))), 0⟩, Value.slice A72 ((([] : List UInt8) ++ (p.take (modI part (p.length + 1)))).length) c73) :: filRs L :: [.blk b3 83 [.string (bs nm), .slice A72 ((([] : List UInt8) ++ (p.take (modI part (p.length + 1)))).length) c73, .int .i64 0], .blk xb 72 [rv2, .bool D2.off, .int .i64 (actsI D2.ar), .int .i64 part], lstO rv2 (setL L (⟨nm, (([] : List UInt8) ++ (p.take (modI part (p.length + 1)))), 0⟩, Value.slice A72 ((([] : List UInt8) ++ (p.take (modI part (p.length + 1)))).length) c73))]) := hH
 replace hH := rs_setL hH
 replace hH := hH.fr4.fr4
 replace hH := (hH.sb (slk (slk (slk sln)))).n3
 exact rfin_do (kind := 0) (th := false) (L' := setL L (⟨nm, (([] : List UInt8) ++ (p.take (modI part (p.length + 1)))), 0⟩, Value.slice A72 ((([] : List UInt8) ++ (p.take (modI part (p.length + 1)))).length) c73)) (rv' := rv2) (p.take (modI part (p.length + 1))) 80 (by simp) rfl hm0 (fun h => absurd h.1 (by decide)) hcut (.inr (.inl rfl)) (by rw [hpt]; simp) (by rw [setL_fs hF hG.srt]; unfold doF; rw [hold] <;> rfl) ((hH.close (r := [])).turned)
 refine gl_cv 15 (.bool false) (by rw [hg16]) rfl ?_
 subst hg16
 refine Go1 3 65 (.bool false) <| Dn <| Iz <| sw_skip <| sw_next <| sw_seq <| sw_sr <| Go1 11 83 (.bool true) <| Dn <| It <| sw_seq <| sw_sr <| glo 1 [(0, Pp xb 0), (1, .int .i64 0), (2, .string (bs nm)), (3, .slice Ap p.length cp), (4, .int .i64 n), (12, Pp b3 0), (15, .bool false), (84, .int .i64 0)] <| Dn <| sw_block <| sw_sr <| Go1 2 85 (.bool true) <| Dn <| It <| sw_region <| gl_st (st_buildS0 (e := 5) (m := 1) rfl rfl rfl (by kernel_rfl) (by kernel_rfl) hH ?_)
 clear hH; intro b79 w80 hH
 refine Go1 1 88 (Pp b3 1) <| Gq rfl (Lk 2 hH rfl rfl rfl) <| gl_st (Apd (e := 5) (.int .u8 0) 1 1 4 rfl hH rfl rfl rfl (Row.nil _ _) (by simp) (by unfold maxLen; omega) (by omega) ?_)
 clear hH; intro v81 w82 hH
 replace hH := hH.row_eq 4 (l' := ([] : List UInt8).length) (xs' := bv ([] : List UInt8)) rfl (Nat.zero_add _) (List.nil_append _)
 obtain ⟨A83, c84, rfl, hl85, hm86⟩ := hH.row_form 4 rfl
 refine Go1 1 91 (.slice Ap p.length cp) <| gl_st (Apd (e := 5) (.int .u8 0) 1 1 4 rfl hH rfl rfl rfl (hp.row.mono hH.zin) (bv_one _) (by (try simp only [List.length_append, List.length_take, List.length_nil]); unfold maxLen; omega) (by (try simp only [List.length_append, List.length_take, List.length_nil]); omega) ?_)
 clear hH; intro v87 w88 hH
 replace hH := hH.row_eq 4 (l' := (([] : List UInt8) ++ p).length) (xs' := bv (([] : List UInt8) ++ p)) rfl (by simp only [List.length_append, List.length_cons, List.length_nil] <;> omega) ((bv_append _ _).symm)
 obtain ⟨A89, c90, rfl, hl91, hm92⟩ := hH.row_form 4 rfl
 refine Go1 1 93 (Pp b3 1) <| gl_st (Ks 2 (.slice A89 ((([] : List UInt8) ++ p).length) c90) rfl hH rfl rfl ?_)
 clear hH; intro w93 hH
 refine Dd <| bkN <| sw_next <| sw_sr <| Go1 2 124 (.bool false) <| Dn <| Iz <| sw_region <| Go1 1 128 (Pp xb 0) <| Gq rfl (La 2 [.string (bs nm), .slice A89 ((([] : List UInt8) ++ p).length) c90, .int .i64 0] hH rfl rfl) ?_
 replace hH : Hp w w93 _ _ ([_, _] ++ [_, _, _]) := hH.fr4
 refine gl_st (Sc rfl rfl (RSet_ct xb _ L (⟨nm, (([] : List UInt8) ++ p), 0⟩, Value.slice A89 ((([] : List UInt8) ++ p).length) c90) _ _ _ _ hH.mine ⟨_, _, _, rfl⟩ hV (by omega)) ?_)
 rintro _ w94 ⟨rv2, rfl, hF95⟩
 replace hH := hH.turns hF95
 replace hH := hH.n5
 refine Dd <| sw_next <| sw_seq <| sw_sr <| Go1 1 131 (.bool false) <| Dn <| Iz <| sw_skip <| sw_next <| sw_sr <| Go1 1 10 (.int .i64 0) <| Dn <| Rt1 rfl rfl ?_
 replace hH := hH.fr3
 replace hH : Hp w w94 _ _ (filR (⟨nm, (([] : List UInt8) ++ p), 0⟩, Value.slice A89 ((([] : List UInt8) ++ p).length) c90) :: filRs L :: [.blk b3 83 [.string (bs nm), .slice A89 ((([] : List UInt8) ++ p).length) c90, .int .i64 0], .blk xb 72 [rv2, .bool D2.off, .int .i64 (actsI D2.ar), .int .i64 part], lstO rv2 (setL L (⟨nm, (([] : List UInt8) ++ p), 0⟩, Value.slice A89 ((([] : List UInt8) ++ p).length) c90))]) := hH
 replace hH := rs_setL hH
 replace hH := hH.fr4.fr4
 replace hH := (hH.sb (slk (slk (slk sln)))).n3
 exact rfin_do (kind := 0) (th := false) (L' := setL L (⟨nm, (([] : List UInt8) ++ p), 0⟩, Value.slice A89 ((([] : List UInt8) ++ p).length) c90)) (rv' := rv2) (p) 0 (by simp) rfl hm0 (fun h => absurd h.1 (by decide)) hcut (.inl rfl) (by simp) (by rw [setL_fs hF hG.srt]; unfold doF; rw [hold] <;> rfl) ((hH.close (r := [])).turned)
theorem RDo1_ct (xb : Nat) (rv : Value) (D : Dsk) (part : Int) (L : FV) (nm : List UInt8) (vp : Value) (p : List UInt8) (n : Int) (M : Nat) (w : World) (hM : Mine w (ownR xb rv D part L)) (hF : L.map (·.1) = D.fs) (hA : ArOk D.ar) (hP : PartOk D.ar part) (hG : Good D.fs M) (hMM : M ≤ 4194304) (hN : L.length ≤ 900000) (hs : nm.length ≤ 140737488355328) (hp : RB (off w (blksOf (ownR xb rv D part L))) vp p) (hpl : p.length ≤ 1048576) :
    Fun Tryz.prog 11 [.pointer (some ⟨xb, 0, none⟩), .int .i64 1, .string (bs nm), vp, .int .i64 n] w fun v w' => RPost xb rv D part L (doD D 1 nm p n) w v w' := by
 obtain ⟨Ar, cr, rfl, hcr1, hcr2⟩ := (Row.of_own (hM.1 _ (List.mem_singleton.2 rfl) (lstO rv L) (by simp [rdkO]))).form
 have hcr3 := hcr2
 simp only [maxLen] at hcr3
 have hV : SlQ L := filRs_sl (hM.1 _ (List.mem_singleton.2 rfl) (filRs L) (by simp [rdkO]))
 obtain ⟨Ap, cp, rfl, hp1, hp2⟩ := hp.row.form
 refine fun_of_sw Tryz.func11 rfl 132 rfl rfl ?_
 have hH : Hp w w (off w (blksOf (ownR xb (.slice Ar L.length cr) D part L))) (blksOf (ownR xb (.slice Ar L.length cr) D part L)) (rdkO xb (.slice Ar L.length cr) D.off (actsI D.ar) part L ++ []) := (Hp.start_mine hM).open_
 replace hH : Hp w w _ _ [.blk xb 72 [.slice Ar L.length cr, .bool D.off, .int .i64 (actsI D.ar), .int .i64 part], .row (.slice Ar L.length cr) 83 3 L.length (rowC filC L), filRs L] := hH
 refine sw_sr <| Go0 1 <| Dn <| sw_sr <| Go3 8 16 (Pp xb 0) 17 (.string (bs nm)) 23 (.bool true) <| gl_st (Sc rfl rfl (RMay18_ct xb _ L D nm true _ (hH.blk_cell 0 rfl rfl) (hH.blk_cell 0 rfl rfl) (hH.row_reads 1 rfl) hF hs) ?_)
 rintro _ w1 ⟨rfl, hF2⟩
 replace hH := hH.call hF2
 refine Go1 1 11 (Ni (mayE D nm true)) <| Dn <| sw_seq <| sw_sr <| Go1 2 26 (.bool (((mayE D nm true : Nat) : Int) != (0 : Int))) <| Dn <| If rfl (fun hc1 => ?_) (fun hc1 => ?_)
 refine sw_sr <| Go1 2 10 (Ni (mayE D nm true)) <| Dn <| Rt1 rfl rfl ?_
 replace hH := (hH.sb (slk (slk (slk sln)))).n3
 exact rfin_err (kind := 1) (th := true) hF rfl (by omega) ((hH.close (r := [])).turned)
 have hm0 : mayE D nm true = 0 := by omega
 have hlt := rdk_lt hF hm0
 obtain ⟨b, sr, fv, hq, hold, hmem⟩ := rdk_find hF hlt
 obtain ⟨Af, cf, rfl, hf1, hf2⟩ := (filRs_rb3 hH 2 rfl hq).row.form
 have hbM := hG.short _ hmem
 have hsr := hG.sure _ hmem
 simp only at hbM hsr
 refine Sk <| sw_sr <| Go1 2 29 (.agg #[.string (bs nm), .slice none 0 0, .int .i64 0]) <| gl_st (Alc [.string (bs []), .slice none 0 0, .int .i64 0] rfl hH ?_)
 clear hH; intro b3 w4 hH
 refine gl_st (Ka 3 [.string (bs nm), .slice none 0 0, .int .i64 0] [.string (bs nm), .slice none 0 0, .int .i64 0] rfl hH rfl rfl ?_)
 clear hH; intro w5 hH
 refine Dn <| sw_sr <| Go2 2 30 (Pp xb 0) 31 (.string (bs nm)) <| gl_st (Sc rfl rfl (RFind_ct xb _ L nm _ (hH.blk_cell 0 rfl rfl) (hH.row_reads 1 rfl)) ?_)
 rintro _ w6 ⟨rfl, hF7⟩
 replace hH := hH.call hF7
 refine gl_cv 32 (Ni (fndI L nm)) (by unfold fndZ; rw [if_pos hlt]) rfl <| Go1 1 13 (Ni (fndI L nm)) <| Dn <| sw_seq <| sw_sr <| Go1 2 34 (.bool (decide (((fndI L nm : Nat) : Int) ≥ (0 : Int)))) <| Dn <| If rfl (fun hc2 => ?_) (fun hc2 => absurd hc2 (by omega))
 clear hc2
 refine sw_region <| Go1 3 37 (Pp xb 0) <| Gq rfl (Lk 0 hH rfl rfl rfl) ?_
 obtain ⟨b9, hb8, hi10⟩ := hH.row_idx 1 rfl (fndI L nm) (by omega)
 refine Go1 1 39 (Ni (fndI L nm)) <| Gq rfl (Ix (e := 83) 3 rfl rfl hi10) <| Gq rfl (rd_loadOA (q := 3) 1 (by kernel_rfl) hH rfl rfl hb8 (by kernel_rfl) [.string (bs nm), .slice Af b.length cf, Ni sr] rfl (rowC_allO filC_len hq _ rfl)) <| gl_st (Ka 3 [.string (bs nm), .slice Af b.length cf, Ni sr] [.string (bs nm), .slice Af b.length cf, Ni sr] rfl hH rfl rfl ?_)
 clear hH; intro w11 hH
 refine Dd <| sw_next <| sw_seq <| sw_sr <| Go1 13 54 (.bool false) <| Dn <| Iz <| sw_skip <| sw_next <| sw_sr <| Go1 3 57 (Pp xb 3) <| Gq rfl (Lk 0 hH rfl rfl rfl) <| Go1 1 14 (.int .i64 part) <| Dn <| sw_sr ?_
 obtain ⟨D2, cu, pt, hcut⟩ : ∃ D2 cu pt, cutD D = (D2, cu, pt) := ⟨_, _, _, rfl⟩
 refine Go1 1 59 (Pp xb 0) ?_
 replace hH : Hp w w11 _ _ ([_] ++ [_, _, _]) := hH
 refine gl_st (Sc rfl rfl (RAct_ct xb _ D D2 cu pt part _ hcut hA hH.mine) ?_)
 rintro _ w12 ⟨rfl, hF13⟩
 replace hH := hH.turns hF13
 replace hH := hH.n4
 refine glo 1 [(0, Pp xb 0), (1, .int .i64 1), (2, .string (bs nm)), (3, .slice Ap p.length cp), (4, .int .i64 n), (12, Pp b3 0), (14, .int .i64 part), (15, .bool cu)] <| Dn <| sw_seq <| sw_sr <| Go1 2 62 (.bool cu) <| gl_split 62 (b := cu) rfl (fun hg4 => ?_) (fun hg4 => ?_)
 refine gl_cv 15 (.bool true) (by rw [hg4]) rfl ?_
 subst hg4
 have hpt := cut_part hcut hP rfl
 refine Go1 3 65 (.bool false) <| Dn <| Iz <| sw_skip <| sw_next <| sw_seq <| sw_sr <| Go2 8 79 (.bool false) 80 (.int .i64 part) <| gl_st (Sc rfl rfl (RMod_ct part 2 _ (by omega) (by omega)) ?_)
 rintro _ w14 ⟨rfl, hF15⟩
 replace hH := hH.call hF15
 refine Go1 2 83 (.bool (((modI part 2 : Nat) : Int) == (1 : Int))) <| Dn <| If rfl (fun hc6 => ?_) (fun hc6 => ?_)
 refine sw_seq <| sw_sr <| Go1 1 84 (.int .i64 1) <| Dn <| sw_block <| sw_sr <| Go1 2 85 (.bool false) <| Dn <| Iz <| sw_sr <| Go1 2 94 (.bool true) <| Dn <| It <| sw_region <| Go1 1 96 (Pp b3 1) <| Gq rfl (Lk 2 hH rfl rfl rfl) <| Gq rfl (Ln (e := 5) rfl) <| Go1 1 99 (Pp b3 2) <| gl_st (Ks 2 (Ni b.length) rfl hH rfl rfl ?_)
 clear hH; intro w16 hH
 refine Dd <| bkN <| sw_next <| sw_sr <| Go1 2 124 (.bool false) <| Dn <| Iz <| sw_region <| Go1 1 128 (Pp xb 0) <| Gq rfl (La 2 [.string (bs nm), .slice Af b.length cf, Ni b.length] hH rfl rfl) ?_
 replace hH : Hp w w16 _ _ ([_, _] ++ [_, _]) := hH.fr4
 refine gl_st (Sc rfl rfl (RSet_ct xb _ L (⟨nm, b, b.length⟩, Value.slice Af b.length cf) _ _ _ _ hH.mine ⟨_, _, _, rfl⟩ hV (by omega)) ?_)
 rintro _ w17 ⟨rv2, rfl, hF18⟩
 replace hH := hH.turns hF18
 replace hH := hH.n4
 refine Dd <| sw_next <| sw_seq <| sw_sr <| Go1 1 131 (.bool true) <| Dn <| It <| sw_sr <| Go1 1 10 (.int .i64 80) <| Dn <| Rt1 rfl rfl ?_
 replace hH := rs_same (g := (⟨nm, b, b.length⟩, Value.slice Af b.length cf)) hlt hq rfl hH
 replace hH := hH.fr4.fr4
 replace hH := (hH.sb (slk (slk (slk sln)))).n3
 exact rfin_do (kind := 1) (th := true) (L' := setL L (⟨nm, b, b.length⟩, Value.slice Af b.length cf)) (rv' := rv2) (p) 80 (by simp) rfl hm0 (fun h => absurd h.1 (by decide)) hcut (.inr (.inr (by rw [hpt]; omega))) (by simp) (by rw [setL_fs hF hG.srt]; unfold doF; rw [hold] <;> rfl) ((hH.close (r := [])).turned)
 have hnrun : ¬ modI part 2 = 1 := by omega
 refine Sk <| sw_seq <| sw_sr <| Go1 1 131 (.bool true) <| Dn <| It <| sw_sr <| Go1 1 10 (.int .i64 80) <| Dn <| Rt1 rfl rfl ?_
 replace hH := hH.fr2.fr2.fr4
 replace hH := (hH.sb (slk (slk (slk sln)))).n3
 exact rfin_not (kind := 1) (th := true) hF 80 (by simp) rfl hm0 (fun h => absurd h.1 (by decide)) hcut (by rw [hpt]; simp [hnrun]) ((hH.close (r := [])).turned)
 refine gl_cv 15 (.bool false) (by rw [hg4]) rfl ?_
 subst hg4
 refine Go1 3 65 (.bool false) <| Dn <| Iz <| sw_skip <| sw_next <| sw_seq <| sw_sr <| Go1 11 83 (.bool true) <| Dn <| It <| sw_seq <| sw_sr <| Go1 1 84 (.int .i64 1) <| Dn <| sw_block <| sw_sr <| Go1 2 85 (.bool false) <| Dn <| Iz <| sw_sr <| Go1 2 94 (.bool true) <| Dn <| It <| sw_region <| Go1 1 96 (Pp b3 1) <| Gq rfl (Lk 2 hH rfl rfl rfl) <| Gq rfl (Ln (e := 5) rfl) <| Go1 1 99 (Pp b3 2) <| gl_st (Ks 2 (Ni b.length) rfl hH rfl rfl ?_)
 clear hH; intro w19 hH
 refine Dd <| bkN <| sw_next <| sw_sr <| Go1 2 124 (.bool false) <| Dn <| Iz <| sw_region <| Go1 1 128 (Pp xb 0) <| Gq rfl (La 2 [.string (bs nm), .slice Af b.length cf, Ni b.length] hH rfl rfl) ?_
 replace hH : Hp w w19 _ _ ([_, _] ++ [_, _]) := hH.fr4
 refine gl_st (Sc rfl rfl (RSet_ct xb _ L (⟨nm, b, b.length⟩, Value.slice Af b.length cf) _ _ _ _ hH.mine ⟨_, _, _, rfl⟩ hV (by omega)) ?_)
 rintro _ w20 ⟨rv2, rfl, hF21⟩
 replace hH := hH.turns hF21
 replace hH := hH.n4
 refine Dd <| sw_next <| sw_seq <| sw_sr <| Go1 1 131 (.bool false) <| Dn <| Iz <| sw_skip <| sw_next <| sw_sr <| Go1 1 10 (.int .i64 0) <| Dn <| Rt1 rfl rfl ?_
 replace hH := rs_same (g := (⟨nm, b, b.length⟩, Value.slice Af b.length cf)) hlt hq rfl hH
 replace hH := hH.fr4.fr4
 replace hH := (hH.sb (slk (slk (slk sln)))).n3
 exact rfin_do (kind := 1) (th := true) (L' := setL L (⟨nm, b, b.length⟩, Value.slice Af b.length cf)) (rv' := rv2) (p) 0 (by simp) rfl hm0 (fun h => absurd h.1 (by decide)) hcut (.inl rfl) (by simp) (by rw [setL_fs hF hG.srt]; unfold doF; rw [hold] <;> rfl) ((hH.close (r := [])).turned)
theorem RDo3_ct (xb : Nat) (rv : Value) (D : Dsk) (part : Int) (L : FV) (nm : List UInt8) (vp : Value) (p : List UInt8) (n : Int) (M : Nat) (w : World) (hM : Mine w (ownR xb rv D part L)) (hF : L.map (·.1) = D.fs) (hA : ArOk D.ar) (hP : PartOk D.ar part) (hG : Good D.fs M) (hMM : M ≤ 4194304) (hN : L.length ≤ 900000) (hs : nm.length ≤ 140737488355328) (hp : RB (off w (blksOf (ownR xb rv D part L))) vp p) (hpl : p.length ≤ 1048576) :
    Fun Tryz.prog 11 [.pointer (some ⟨xb, 0, none⟩), .int .i64 3, .string (bs nm), vp, .int .i64 n] w fun v w' => RPost xb rv D part L (doD D 3 nm p n) w v w' := by
 obtain ⟨Ar, cr, rfl, hcr1, hcr2⟩ := (Row.of_own (hM.1 _ (List.mem_singleton.2 rfl) (lstO rv L) (by simp [rdkO]))).form
 have hcr3 := hcr2
 simp only [maxLen] at hcr3
 have hV : SlQ L := filRs_sl (hM.1 _ (List.mem_singleton.2 rfl) (filRs L) (by simp [rdkO]))
 obtain ⟨Ap, cp, rfl, hp1, hp2⟩ := hp.row.form
 refine fun_of_sw Tryz.func11 rfl 132 rfl rfl ?_
 have hH : Hp w w (off w (blksOf (ownR xb (.slice Ar L.length cr) D part L))) (blksOf (ownR xb (.slice Ar L.length cr) D part L)) (rdkO xb (.slice Ar L.length cr) D.off (actsI D.ar) part L ++ []) := (Hp.start_mine hM).open_
 replace hH : Hp w w _ _ [.blk xb 72 [.slice Ar L.length cr, .bool D.off, .int .i64 (actsI D.ar), .int .i64 part], .row (.slice Ar L.length cr) 83 3 L.length (rowC filC L), filRs L] := hH
 refine sw_sr <| Go0 1 <| Dn <| sw_sr <| Go3 8 16 (Pp xb 0) 17 (.string (bs nm)) 23 (.bool true) <| gl_st (Sc rfl rfl (RMay18_ct xb _ L D nm true _ (hH.blk_cell 0 rfl rfl) (hH.blk_cell 0 rfl rfl) (hH.row_reads 1 rfl) hF hs) ?_)
 rintro _ w1 ⟨rfl, hF2⟩
 replace hH := hH.call hF2
 refine Go1 1 11 (Ni (mayE D nm true)) <| Dn <| sw_seq <| sw_sr <| Go1 2 26 (.bool (((mayE D nm true : Nat) : Int) != (0 : Int))) <| Dn <| If rfl (fun hc1 => ?_) (fun hc1 => ?_)
 refine sw_sr <| Go1 2 10 (Ni (mayE D nm true)) <| Dn <| Rt1 rfl rfl ?_
 replace hH := (hH.sb (slk (slk (slk sln)))).n3
 exact rfin_err (kind := 3) (th := true) hF rfl (by omega) ((hH.close (r := [])).turned)
 have hm0 : mayE D nm true = 0 := by omega
 have hlt := rdk_lt hF hm0
 obtain ⟨b, sr, fv, hq, hold, hmem⟩ := rdk_find hF hlt
 obtain ⟨Af, cf, rfl, hf1, hf2⟩ := (filRs_rb3 hH 2 rfl hq).row.form
 have hbM := hG.short _ hmem
 have hsr := hG.sure _ hmem
 simp only at hbM hsr
 refine Sk <| sw_sr <| Go1 2 29 (.agg #[.string (bs nm), .slice none 0 0, .int .i64 0]) <| gl_st (Alc [.string (bs []), .slice none 0 0, .int .i64 0] rfl hH ?_)
 clear hH; intro b3 w4 hH
 refine gl_st (Ka 3 [.string (bs nm), .slice none 0 0, .int .i64 0] [.string (bs nm), .slice none 0 0, .int .i64 0] rfl hH rfl rfl ?_)
 clear hH; intro w5 hH
 refine Dn <| sw_sr <| Go2 2 30 (Pp xb 0) 31 (.string (bs nm)) <| gl_st (Sc rfl rfl (RFind_ct xb _ L nm _ (hH.blk_cell 0 rfl rfl) (hH.row_reads 1 rfl)) ?_)
 rintro _ w6 ⟨rfl, hF7⟩
 replace hH := hH.call hF7
 refine gl_cv 32 (Ni (fndI L nm)) (by unfold fndZ; rw [if_pos hlt]) rfl <| Go1 1 13 (Ni (fndI L nm)) <| Dn <| sw_seq <| sw_sr <| Go1 2 34 (.bool (decide (((fndI L nm : Nat) : Int) ≥ (0 : Int)))) <| Dn <| If rfl (fun hc2 => ?_) (fun hc2 => absurd hc2 (by omega))
 clear hc2
 refine sw_region <| Go1 3 37 (Pp xb 0) <| Gq rfl (Lk 0 hH rfl rfl rfl) ?_
 obtain ⟨b9, hb8, hi10⟩ := hH.row_idx 1 rfl (fndI L nm) (by omega)
 refine Go1 1 39 (Ni (fndI L nm)) <| Gq rfl (Ix (e := 83) 3 rfl rfl hi10) <| Gq rfl (rd_loadOA (q := 3) 1 (by kernel_rfl) hH rfl rfl hb8 (by kernel_rfl) [.string (bs nm), .slice Af b.length cf, Ni sr] rfl (rowC_allO filC_len hq _ rfl)) <| gl_st (Ka 3 [.string (bs nm), .slice Af b.length cf, Ni sr] [.string (bs nm), .slice Af b.length cf, Ni sr] rfl hH rfl rfl ?_)
 clear hH; intro w11 hH
 refine Dd <| sw_next <| sw_seq <| sw_sr <| Go2 6 44 (.bool true) 47 (.bool (decide ((n : Int) < (0 : Int)))) <| Gi 47 rfl (fun hg3 => ?_) (fun hg3 => ?_)
 refine Go1 7 54 (.bool true) <| Dn <| It <| sw_sr <| Go1 1 10 (.int .i64 1) <| Dn <| Rt1 rfl rfl ?_
 replace hH := (hH.sb (slk (slk (slk sln)))).n3
 exact rfin_arg hF hm0 (.inl (by omega)) ((hH.close (r := [])).turned)
 refine Go2 2 48 (.int .i64 n) 49 (Pp b3 1) <| Gq rfl (Lk 3 hH rfl rfl rfl) <| Gq rfl (Ln (e := 5) rfl) <| glo 3 [(0, Pp xb 0), (1, .int .i64 3), (2, .string (bs nm)), (3, .slice Ap p.length cp), (4, .int .i64 n), (12, Pp b3 0), (54, .bool (decide ((n : Int) > ((b.length : Nat) : Int))))] <| Dn <| If rfl (fun hc5 => ?_) (fun hc5 => ?_)
 refine sw_sr <| Go1 1 10 (.int .i64 1) <| Dn <| Rt1 rfl rfl ?_
 replace hH := (hH.sb (slk (slk (slk sln)))).n3
 exact rfin_arg hF hm0 (.inr (by rw [hold]; simp only; omega)) ((hH.close (r := [])).turned)
 obtain ⟨k, rfl⟩ : ∃ k : Nat, n = k := ⟨n.toNat, by omega⟩
 refine Sk <| sw_sr <| Go2 3 4 (Ni k) 57 (Pp xb 3) <| Gq rfl (Lk 0 hH rfl rfl rfl) <| Go1 1 14 (.int .i64 part) <| Dn <| sw_sr ?_
 obtain ⟨D2, cu, pt, hcut⟩ : ∃ D2 cu pt, cutD D = (D2, cu, pt) := ⟨_, _, _, rfl⟩
 refine Go1 1 59 (Pp xb 0) ?_
 replace hH : Hp w w11 _ _ ([_] ++ [_, _, _]) := hH
 refine gl_st (Sc rfl rfl (RAct_ct xb _ D D2 cu pt part _ hcut hA hH.mine) ?_)
 rintro _ w12 ⟨rfl, hF13⟩
 replace hH := hH.turns hF13
 replace hH := hH.n4
 refine Go1 1 15 (.bool cu) <| Dn <| sw_seq <| sw_sr <| Go1 2 62 (.bool cu) <| gl_split 62 (b := cu) rfl (fun hg6 => ?_) (fun hg6 => ?_)
 refine gl_cv 15 (.bool true) (by rw [hg6]) rfl ?_
 subst hg6
 have hpt := cut_part hcut hP rfl
 refine Go1 3 65 (.bool false) <| Dn <| Iz <| sw_skip <| sw_next <| sw_seq <| sw_sr <| Go2 8 79 (.bool false) 80 (.int .i64 part) <| gl_st (Sc rfl rfl (RMod_ct part 2 _ (by omega) (by omega)) ?_)
 rintro _ w14 ⟨rfl, hF15⟩
 replace hH := hH.call hF15
 refine Go1 2 83 (.bool (((modI part 2 : Nat) : Int) == (1 : Int))) <| Dn <| If rfl (fun hc8 => ?_) (fun hc8 => ?_)
 refine sw_seq <| sw_sr <| Go1 1 84 (.int .i64 3) <| Dn <| sw_block <| sw_sr <| Go1 2 85 (.bool false) <| Dn <| Iz <| sw_sr <| Go1 2 94 (.bool false) <| Dn <| Iz <| sw_sr <| Go1 2 100 (.bool false) <| Dn <| Iz <| sw_sr <| Go1 2 109 (.bool true) <| Dn <| It <| sw_sr <| gl_st (st_buildS0 (e := 5) (m := 1) rfl rfl rfl (by kernel_rfl) (by kernel_rfl) hH ?_)
 clear hH; intro b16 w17 hH
 refine Go1 1 112 (Pp b3 1) <| Gq rfl (Lk 2 hH rfl rfl rfl) <| Go1 1 114 (Ni k) <| Gq rfl (rd_cut (e := 5) (m := 1) (by kernel_rfl) (by kernel_rfl) rfl (.inl ⟨rfl, rfl⟩) (.inr ⟨_, _, rfl, rfl⟩) (cut_f (show k ≤ b.length by omega) (by omega))) <| gl_st (Apd (e := 5) (.int .u8 0) 1 1 4 rfl hH rfl rfl rfl (rb_front (filRs_rb3 hH 1 rfl hq) (show k ≤ b.length by omega)).row (bv_one _) (by rw [List.length_take]; unfold maxLen; omega) (by rw [List.length_take]; omega) ?_)
 clear hH; intro v18 w19 hH
 replace hH := hH.row_eq 4 (l' := (b.take k).length) (xs' := bv (b.take k)) rfl (Nat.zero_add _) (List.nil_append _)
 obtain ⟨A20, c21, rfl, hl22, hm23⟩ := hH.row_form 4 rfl
 refine glo 1 [(0, Pp xb 0), (1, .int .i64 3), (2, .string (bs nm)), (4, Ni k), (12, Pp b3 0), (15, .bool true), (116, .slice A20 ((b.take k).length) c21), (117, Pp b3 1)] <| gl_st (Ks 2 (.slice A20 ((b.take k).length) c21) rfl hH rfl rfl ?_)
 clear hH; intro w24 hH
 refine Dn <| sw_region <| Go1 1 118 (Pp b3 2) <| Gq rfl (Lk 2 hH rfl rfl rfl) <| Gc0 2 121 (.int .i64 (if (k : Int) < (sr : Int) then (k : Int) else (sr : Int))) (Ni (min sr k)) (cv_minN) <| Go1 1 122 (Pp b3 2) <| gl_st (Ks 2 (Ni (min sr k)) rfl hH rfl rfl ?_)
 clear hH; intro w25 hH
 refine Dd <| bkN <| sw_next <| sw_sr <| Go1 2 124 (.bool false) <| Dn <| Iz <| sw_region <| Go1 1 128 (Pp xb 0) <| Gq rfl (La 2 [.string (bs nm), .slice A20 ((b.take k).length) c21, Ni (min sr k)] hH rfl rfl) ?_
 replace hH : Hp w w25 _ _ ([_, _] ++ [_, _, _]) := hH.fr4
 refine gl_st (Sc rfl rfl (RSet_ct xb _ L (⟨nm, (b.take k), (min sr k)⟩, Value.slice A20 ((b.take k).length) c21) _ _ _ _ hH.mine ⟨_, _, _, rfl⟩ hV (by omega)) ?_)
 rintro _ w26 ⟨rv2, rfl, hF27⟩
 replace hH := hH.turns hF27
 replace hH := hH.n5
 refine Dd <| sw_next <| sw_seq <| sw_sr <| Go1 1 131 (.bool true) <| Dn <| It <| sw_sr <| Go1 1 10 (.int .i64 80) <| Dn <| Rt1 rfl rfl ?_
 replace hH := hH.fr3
 replace hH : Hp w w26 _ _ (filR (⟨nm, (b.take k), (min sr k)⟩, Value.slice A20 ((b.take k).length) c21) :: filRs L :: [.blk b3 83 [.string (bs nm), .slice A20 ((b.take k).length) c21, Ni (min sr k)], .blk xb 72 [rv2, .bool D2.off, .int .i64 (actsI D2.ar), .int .i64 part], lstO rv2 (setL L (⟨nm, (b.take k), (min sr k)⟩, Value.slice A20 ((b.take k).length) c21))]) := hH
 replace hH := rs_setL hH
 replace hH := hH.fr4.fr4
 replace hH := (hH.sb (slk (slk (slk sln)))).n3
 exact rfin_do (kind := 3) (th := true) (L' := setL L (⟨nm, (b.take k), (min sr k)⟩, Value.slice A20 ((b.take k).length) c21)) (rv' := rv2) (p) 80 (by simp) rfl hm0 (fun h => by have h3 := h.2; rw [hold] at h3; simp only at h3; omega) hcut (.inr (.inr (by rw [hpt]; omega))) (by simp) (by rw [setL_fs hF hG.srt]; unfold doF; rw [hold, Int.toNat_natCast] <;> rfl) ((hH.close (r := [])).turned)
 have hnrun : ¬ modI part 2 = 1 := by omega
 refine Sk <| sw_seq <| sw_sr <| Go1 1 131 (.bool true) <| Dn <| It <| sw_sr <| Go1 1 10 (.int .i64 80) <| Dn <| Rt1 rfl rfl ?_
 replace hH := hH.fr2.fr2.fr4
 replace hH := (hH.sb (slk (slk (slk sln)))).n3
 exact rfin_not (kind := 3) (th := true) hF 80 (by simp) rfl hm0 (fun h => by have h3 := h.2; rw [hold] at h3; simp only at h3; omega) hcut (by rw [hpt]; simp [hnrun]) ((hH.close (r := [])).turned)
 refine gl_cv 15 (.bool false) (by rw [hg6]) rfl ?_
 subst hg6
 refine Go1 3 65 (.bool false) <| Dn <| Iz <| sw_skip <| sw_next <| sw_seq <| sw_sr <| Go1 11 83 (.bool true) <| Dn <| It <| sw_seq <| sw_sr <| Go1 1 84 (.int .i64 3) <| Dn <| sw_block <| sw_sr <| Go1 2 85 (.bool false) <| Dn <| Iz <| sw_sr <| Go1 2 94 (.bool false) <| Dn <| Iz <| sw_sr <| Go1 2 100 (.bool false) <| Dn <| Iz <| sw_sr <| Go1 2 109 (.bool true) <| Dn <| It <| sw_sr <| gl_st (st_buildS0 (e := 5) (m := 1) rfl rfl rfl (by kernel_rfl) (by kernel_rfl) hH ?_)
 clear hH; intro b28 w29 hH
 refine Go1 1 112 (Pp b3 1) <| Gq rfl (Lk 2 hH rfl rfl rfl) <| Go1 1 114 (Ni k) <| Gq rfl (rd_cut (e := 5) (m := 1) (by kernel_rfl) (by kernel_rfl) rfl (.inl ⟨rfl, rfl⟩) (.inr ⟨_, _, rfl, rfl⟩) (cut_f (show k ≤ b.length by omega) (by omega))) <| gl_st (Apd (e := 5) (.int .u8 0) 1 1 4 rfl hH rfl rfl rfl (rb_front (filRs_rb3 hH 1 rfl hq) (show k ≤ b.length by omega)).row (bv_one _) (by rw [List.length_take]; unfold maxLen; omega) (by rw [List.length_take]; omega) ?_)
 clear hH; intro v30 w31 hH
 replace hH := hH.row_eq 4 (l' := (b.take k).length) (xs' := bv (b.take k)) rfl (Nat.zero_add _) (List.nil_append _)
 obtain ⟨A32, c33, rfl, hl34, hm35⟩ := hH.row_form 4 rfl
 refine Go1 1 117 (Pp b3 1) <| gl_st (Ks 2 (.slice A32 ((b.take k).length) c33) rfl hH rfl rfl ?_)
 clear hH; intro w36 hH
 refine Dn <| sw_region <| glo 1 [(0, Pp xb 0), (1, .int .i64 3), (2, .string (bs nm)), (4, Ni k), (12, Pp b3 0), (15, .bool false), (118, Pp b3 2)] <| Gq rfl (Lk 2 hH rfl rfl rfl) <| Gc0 2 121 (.int .i64 (if (k : Int) < (sr : Int) then (k : Int) else (sr : Int))) (Ni (min sr k)) (cv_minN) <| Go1 1 122 (Pp b3 2) <| gl_st (Ks 2 (Ni (min sr k)) rfl hH rfl rfl ?_)
 clear hH; intro w37 hH
 refine Dd <| bkN <| sw_next <| sw_sr <| Go1 2 124 (.bool false) <| Dn <| Iz <| sw_region <| Go1 1 128 (Pp xb 0) <| Gq rfl (La 2 [.string (bs nm), .slice A32 ((b.take k).length) c33, Ni (min sr k)] hH rfl rfl) ?_
 replace hH : Hp w w37 _ _ ([_, _] ++ [_, _, _]) := hH.fr4
 refine gl_st (Sc rfl rfl (RSet_ct xb _ L (⟨nm, (b.take k), (min sr k)⟩, Value.slice A32 ((b.take k).length) c33) _ _ _ _ hH.mine ⟨_, _, _, rfl⟩ hV (by omega)) ?_)
 rintro _ w38 ⟨rv2, rfl, hF39⟩
 replace hH := hH.turns hF39
 replace hH := hH.n5
 refine Dd <| sw_next <| sw_seq <| sw_sr <| Go1 1 131 (.bool false) <| Dn <| Iz <| sw_skip <| sw_next <| sw_sr <| Go1 1 10 (.int .i64 0) <| Dn <| Rt1 rfl rfl ?_
 replace hH := hH.fr3
 replace hH : Hp w w38 _ _ (filR (⟨nm, (b.take k), (min sr k)⟩, Value.slice A32 ((b.take k).length) c33) :: filRs L :: [.blk b3 83 [.string (bs nm), .slice A32 ((b.take k).length) c33, Ni (min sr k)], .blk xb 72 [rv2, .bool D2.off, .int .i64 (actsI D2.ar), .int .i64 part], lstO rv2 (setL L (⟨nm, (b.take k), (min sr k)⟩, Value.slice A32 ((b.take k).length) c33))]) := hH
 replace hH := rs_setL hH
 replace hH := hH.fr4.fr4
 replace hH := (hH.sb (slk (slk (slk sln)))).n3
 exact rfin_do (kind := 3) (th := true) (L' := setL L (⟨nm, (b.take k), (min sr k)⟩, Value.slice A32 ((b.take k).length) c33)) (rv' := rv2) (p) 0 (by simp) rfl hm0 (fun h => by have h3 := h.2; rw [hold] at h3; simp only at h3; omega) hcut (.inl rfl) (by simp) (by rw [setL_fs hF hG.srt]; unfold doF; rw [hold, Int.toNat_natCast] <;> rfl) ((hH.close (r := [])).turned)
end Go.Proofs.YtajapgjemefoiaaGreatDoor
/- Layer 18 (disk), the document's own: Do: Put, Remove: what it answers. -/
set_option maxRecDepth 100000
set_option maxHeartbeats 4000000
set_option linter.unusedVariables false
set_option linter.unusedSimpArgs false
namespace Go.Proofs.YtajapgjemefoiaaGreatDoor
open Go.RowKit Go.SW

theorem RDo2_ct (xb : Nat) (rv : Value) (D : Dsk) (part : Int) (L : FV) (nm : List UInt8) (vp : Value) (p : List UInt8) (n : Int) (M : Nat) (w : World) (hM : Mine w (ownR xb rv D part L)) (hF : L.map (·.1) = D.fs) (hA : ArOk D.ar) (hP : PartOk D.ar part) (hG : Good D.fs M) (hMM : M ≤ 140737488355328) (hN : L.length ≤ 900000) (hs : nm.length ≤ 140737488355328) (hp : RB (off w (blksOf (ownR xb rv D part L))) vp p) (hpl : p.length ≤ 140737488355328) :
    Fun Tryz.prog 11 [.pointer (some ⟨xb, 0, none⟩), .int .i64 2, .string (bs nm), vp, .int .i64 n] w fun v w' => RPost xb rv D part L (doD D 2 nm p n) w v w' := by
 obtain ⟨Ar, cr, rfl, hcr1, hcr2⟩ := (Row.of_own (hM.1 _ (List.mem_singleton.2 rfl) (lstO rv L) (by simp [rdkO]))).form
 have hcr3 := hcr2
 simp only [maxLen] at hcr3
 have hV : SlQ L := filRs_sl (hM.1 _ (List.mem_singleton.2 rfl) (filRs L) (by simp [rdkO]))
 obtain ⟨Ap, cp, rfl, hp1, hp2⟩ := hp.row.form
 refine fun_of_sw Tryz.func11 rfl 132 rfl rfl ?_
 have hH : Hp w w (off w (blksOf (ownR xb (.slice Ar L.length cr) D part L))) (blksOf (ownR xb (.slice Ar L.length cr) D part L)) (rdkO xb (.slice Ar L.length cr) D.off (actsI D.ar) part L ++ []) := (Hp.start_mine hM).open_
 replace hH : Hp w w _ _ [.blk xb 72 [.slice Ar L.length cr, .bool D.off, .int .i64 (actsI D.ar), .int .i64 part], .row (.slice Ar L.length cr) 83 3 L.length (rowC filC L), filRs L] := hH
 refine sw_sr <| Go0 1 <| Dn <| sw_sr <| Go3 8 16 (Pp xb 0) 17 (.string (bs nm)) 23 (.bool false) <| gl_st (Sc rfl rfl (RMay18_ct xb _ L D nm false _ (hH.blk_cell 0 rfl rfl) (hH.blk_cell 0 rfl rfl) (hH.row_reads 1 rfl) hF hs) ?_)
 rintro _ w1 ⟨rfl, hF2⟩
 replace hH := hH.call hF2
 refine Go1 1 11 (Ni (mayE D nm false)) <| Dn <| sw_seq <| sw_sr <| Go1 2 26 (.bool (((mayE D nm false : Nat) : Int) != (0 : Int))) <| Dn <| If rfl (fun hc1 => ?_) (fun hc1 => ?_)
 refine sw_sr <| Go1 2 10 (Ni (mayE D nm false)) <| Dn <| Rt1 rfl rfl ?_
 replace hH := (hH.sb (slk (slk (slk sln)))).n3
 exact rfin_err (kind := 2) (th := false) hF rfl (by omega) ((hH.close (r := [])).turned)
 have hm0 : mayE D nm false = 0 := by omega
 refine Sk <| sw_sr <| Go1 2 29 (.agg #[.string (bs nm), .slice none 0 0, .int .i64 0]) <| gl_st (Alc [.string (bs []), .slice none 0 0, .int .i64 0] rfl hH ?_)
 clear hH; intro b3 w4 hH
 refine gl_st (Ka 3 [.string (bs nm), .slice none 0 0, .int .i64 0] [.string (bs nm), .slice none 0 0, .int .i64 0] rfl hH rfl rfl ?_)
 clear hH; intro w5 hH
 refine Dn <| sw_sr <| Go2 2 30 (Pp xb 0) 31 (.string (bs nm)) <| gl_st (Sc rfl rfl (RFind_ct xb _ L nm _ (hH.blk_cell 0 rfl rfl) (hH.row_reads 1 rfl)) ?_)
 rintro _ w6 ⟨rfl, hF7⟩
 replace hH := hH.call hF7
 refine Go1 1 13 (.int .i64 (fndZ L nm)) <| Dn <| sw_seq <| sw_sr <| Go1 2 34 (.bool (decide ((fndZ L nm) ≥ (0 : Int)))) <| Dn <| If rfl (fun hc2 => ?_) (fun hc2 => ?_)
 have hlt : fndI L nm < L.length := by refine Classical.byContradiction fun h9 => ?_; unfold fndZ at hc2; rw [if_neg h9] at hc2; omega
 obtain ⟨b, sr, fv, hq, hold, hmem⟩ := rdk_find hF hlt
 obtain ⟨Af, cf, rfl, hf1, hf2⟩ := (filRs_rb3 hH 2 rfl hq).row.form
 have hbM := hG.short _ hmem
 have hsr := hG.sure _ hmem
 simp only at hbM hsr
 refine sw_cv 13 (Ni (fndI L nm)) (by unfold fndZ; rw [if_pos hlt]) rfl <| sw_region <| Go1 3 37 (Pp xb 0) <| Gq rfl (Lk 0 hH rfl rfl rfl) ?_
 obtain ⟨b9, hb8, hi10⟩ := hH.row_idx 1 rfl (fndI L nm) (by omega)
 refine Go1 1 39 (Ni (fndI L nm)) <| Gq rfl (Ix (e := 83) 3 rfl rfl hi10) <| Gq rfl (rd_loadOA (q := 3) 1 (by kernel_rfl) hH rfl rfl hb8 (by kernel_rfl) [.string (bs nm), .slice Af b.length cf, Ni sr] rfl (rowC_allO filC_len hq _ rfl)) <| gl_st (Ka 3 [.string (bs nm), .slice Af b.length cf, Ni sr] [.string (bs nm), .slice Af b.length cf, Ni sr] rfl hH rfl rfl ?_)
 clear hH; intro w11 hH
 refine Dd <| sw_next <| sw_seq <| sw_sr <| Go1 13 54 (.bool false) <| Dn <| Iz <| sw_skip <| sw_next <| sw_sr <| Go1 3 57 (Pp xb 3) <| Gq rfl (Lk 0 hH rfl rfl rfl) <| Go1 1 14 (.int .i64 part) <| Dn <| sw_sr ?_
 obtain ⟨D2, cu, pt, hcut⟩ : ∃ D2 cu pt, cutD D = (D2, cu, pt) := ⟨_, _, _, rfl⟩
 refine Go1 1 59 (Pp xb 0) ?_
 replace hH : Hp w w11 _ _ ([_] ++ [_, _, _]) := hH
 refine gl_st (Sc rfl rfl (RAct_ct xb _ D D2 cu pt part _ hcut hA hH.mine) ?_)
 rintro _ w12 ⟨rfl, hF13⟩
 replace hH := hH.turns hF13
 replace hH := hH.n4
 refine glo 1 [(0, Pp xb 0), (1, .int .i64 2), (2, .string (bs nm)), (3, .slice Ap p.length cp), (4, .int .i64 n), (12, Pp b3 0), (14, .int .i64 part), (15, .bool cu)] <| Dn <| sw_seq <| sw_sr <| Go1 2 62 (.bool cu) <| gl_split 62 (b := cu) rfl (fun hg4 => ?_) (fun hg4 => ?_)
 refine gl_cv 15 (.bool true) (by rw [hg4]) rfl ?_
 subst hg4
 have hpt := cut_part hcut hP rfl
 refine Go1 3 65 (.bool false) <| Dn <| Iz <| sw_skip <| sw_next <| sw_seq <| sw_sr <| Go2 8 79 (.bool false) 80 (.int .i64 part) <| gl_st (Sc rfl rfl (RMod_ct part 2 _ (by omega) (by omega)) ?_)
 rintro _ w14 ⟨rfl, hF15⟩
 replace hH := hH.call hF15
 refine Go1 2 83 (.bool (((modI part 2 : Nat) : Int) == (1 : Int))) <| Dn <| If rfl (fun hc6 => ?_) (fun hc6 => ?_)
 refine sw_seq <| sw_sr <| Go1 1 84 (.int .i64 2) <| Dn <| sw_block <| sw_sr <| Go1 2 85 (.bool false) <| Dn <| Iz <| sw_sr <| Go1 2 94 (.bool false) <| Dn <| Iz <| sw_sr <| Go1 2 100 (.bool true) <| Dn <| It <| sw_sr <| gl_st (st_buildS0 (e := 5) (m := 1) rfl rfl rfl (by kernel_rfl) (by kernel_rfl) hH ?_)
 clear hH; intro b16 w17 hH
 refine Go1 1 103 (.slice Ap p.length cp) <| gl_st (Apd (e := 5) (.int .u8 0) 1 1 4 rfl hH rfl rfl rfl (hp.row.mono hH.zin) (bv_one _) (by unfold maxLen; omega) (by omega) ?_)
 clear hH; intro v18 w19 hH
 replace hH := hH.row_eq 4 (l' := p.length) (xs' := bv p) rfl (Nat.zero_add _) (List.nil_append _)
 obtain ⟨A20, c21, rfl, hl22, hm23⟩ := hH.row_form 4 rfl
 refine Go1 1 105 (Pp b3 1) <| gl_st (Ks 2 (.slice A20 p.length c21) rfl hH rfl rfl ?_)
 clear hH; intro w24 hH
 refine Dn <| sw_region <| Go1 1 106 (.slice Ap p.length cp) <| Gq rfl (Ln (e := 5) rfl) <| Go1 1 108 (Pp b3 2) <| gl_st (Ks 2 (Ni p.length) rfl hH rfl rfl ?_)
 clear hH; intro w25 hH
 refine Dd <| bkN <| sw_next <| sw_sr <| Go1 2 124 (.bool false) <| Dn <| Iz <| sw_region <| Go1 1 128 (Pp xb 0) <| Gq rfl (La 2 [.string (bs nm), .slice A20 p.length c21, Ni p.length] hH rfl rfl) ?_
 replace hH : Hp w w25 _ _ ([_, _] ++ [_, _, _]) := hH.fr4
 refine gl_st (Sc rfl rfl (RSet_ct xb _ L (⟨nm, p, p.length⟩, Value.slice A20 p.length c21) _ _ _ _ hH.mine ⟨_, _, _, rfl⟩ hV (by omega)) ?_)
 rintro _ w26 ⟨rv2, rfl, hF27⟩
 replace hH := hH.turns hF27
 replace hH := hH.n5
 refine Dd <| sw_next <| sw_seq <| sw_sr <| glo 1 [(131, .bool true)] <| Dn <| It <| sw_sr <| Go1 1 10 (.int .i64 80) <| Dn <| Rt1 rfl rfl ?_
 replace hH := hH.fr3
 replace hH : Hp w w26 _ _ (filR (⟨nm, p, p.length⟩, Value.slice A20 p.length c21) :: filRs L :: [.blk b3 83 [.string (bs nm), .slice A20 p.length c21, Ni p.length], .blk xb 72 [rv2, .bool D2.off, .int .i64 (actsI D2.ar), .int .i64 part], lstO rv2 (setL L (⟨nm, p, p.length⟩, Value.slice A20 p.length c21))]) := hH
 replace hH := rs_setL hH
 replace hH := hH.fr4.fr4
 replace hH := (hH.sb (slk (slk (slk sln)))).n3
 exact rfin_do (kind := 2) (th := false) (L' := setL L (⟨nm, p, p.length⟩, Value.slice A20 p.length c21)) (rv' := rv2) (p) 80 (by simp) rfl hm0 (fun h => absurd h.1 (by decide)) hcut (.inr (.inr (by rw [hpt]; omega))) (by simp) (by rw [setL_fs hF hG.srt]; unfold doF; rfl) ((hH.close (r := [])).turned)
 have hnrun : ¬ modI part 2 = 1 := by omega
 refine Sk <| sw_seq <| sw_sr <| Go1 1 131 (.bool true) <| Dn <| It <| sw_sr <| Go1 1 10 (.int .i64 80) <| Dn <| Rt1 rfl rfl ?_
 replace hH := hH.fr2.fr2.fr4
 replace hH := (hH.sb (slk (slk (slk sln)))).n3
 exact rfin_not (kind := 2) (th := false) hF 80 (by simp) rfl hm0 (fun h => absurd h.1 (by decide)) hcut (by rw [hpt]; simp [hnrun]) ((hH.close (r := [])).turned)
 refine gl_cv 15 (.bool false) (by rw [hg4]) rfl ?_
 subst hg4
 refine Go1 3 65 (.bool false) <| Dn <| Iz <| sw_skip <| sw_next <| sw_seq <| sw_sr <| Go1 11 83 (.bool true) <| Dn <| It <| sw_seq <| sw_sr <| Go1 1 84 (.int .i64 2) <| Dn <| sw_block <| sw_sr <| Go1 2 85 (.bool false) <| Dn <| Iz <| sw_sr <| Go1 2 94 (.bool false) <| Dn <| Iz <| sw_sr <| Go1 2 100 (.bool true) <| Dn <| It <| sw_sr <| gl_st (st_buildS0 (e := 5) (m := 1) rfl rfl rfl (by kernel_rfl) (by kernel_rfl) hH ?_)
 clear hH; intro b28 w29 hH
 refine Go1 1 103 (.slice Ap p.length cp) <| gl_st (Apd (e := 5) (.int .u8 0) 1 1 4 rfl hH rfl rfl rfl (hp.row.mono hH.zin) (bv_one _) (by unfold maxLen; omega) (by omega) ?_)
 clear hH; intro v30 w31 hH
 replace hH := hH.row_eq 4 (l' := p.length) (xs' := bv p) rfl (Nat.zero_add _) (List.nil_append _)
 obtain ⟨A32, c33, rfl, hl34, hm35⟩ := hH.row_form 4 rfl
 refine Go1 1 105 (Pp b3 1) <| gl_st (Ks 2 (.slice A32 p.length c33) rfl hH rfl rfl ?_)
 clear hH; intro w36 hH
 refine Dn <| sw_region <| Go1 1 106 (.slice Ap p.length cp) <| Gq rfl (Ln (e := 5) rfl) <| Go1 1 108 (Pp b3 2) <| gl_st (Ks 2 (Ni p.length) rfl hH rfl rfl ?_)
 clear hH; intro w37 hH
 refine Dd <| bkN <| sw_next <| sw_sr <| Go1 2 124 (.bool false) <| Dn <| Iz <| sw_region <| Go1 1 128 (Pp xb 0) <| Gq rfl (La 2 [.string (bs nm), .slice A32 p.length c33, Ni p.length] hH rfl rfl) ?_
 replace hH : Hp w w37 _ _ ([_, _] ++ [_, _, _]) := hH.fr4
 refine gl_st (Sc rfl rfl (RSet_ct xb _ L (⟨nm, p, p.length⟩, Value.slice A32 p.length c33) _ _ _ _ hH.mine ⟨_, _, _, rfl⟩ hV (by omega)) ?_)
 rintro _ w38 ⟨rv2, rfl, hF39⟩
 replace hH := hH.turns hF39
 replace hH := hH.n5
 refine Dd <| sw_next <| sw_seq <| sw_sr <| Go1 1 131 (.bool false) <| Dn <| Iz <| sw_skip <| sw_next <| sw_sr <| Go1 1 10 (.int .i64 0) <| Dn <| Rt1 rfl rfl ?_
 replace hH := hH.fr3
 replace hH : Hp w w38 _ _ (filR (⟨nm, p, p.length⟩, Value.slice A32 p.length c33) :: filRs L :: [.blk b3 83 [.string (bs nm), .slice A32 p.length c33, Ni p.length], .blk xb 72 [rv2, .bool D2.off, .int .i64 (actsI D2.ar), .int .i64 part], lstO rv2 (setL L (⟨nm, p, p.length⟩, Value.slice A32 p.length c33))]) := hH
 replace hH := rs_setL hH
 replace hH := hH.fr4.fr4
 replace hH := (hH.sb (slk (slk (slk sln)))).n3
 exact rfin_do (kind := 2) (th := false) (L' := setL L (⟨nm, p, p.length⟩, Value.slice A32 p.length c33)) (rv' := rv2) (p) 0 (by simp) rfl hm0 (fun h => absurd h.1 (by decide)) hcut (.inl rfl) (by simp) (by rw [setL_fs hF hG.srt]; unfold doF; rfl) ((hH.close (r := [])).turned)
 have hlt : ¬ fndI L nm < L.length := by intro h9; unfold fndZ at hc2; rw [if_pos h9] at hc2; omega
 have hold := rdk_no hF hlt
 refine Sk <| sw_seq <| sw_sr <| Go1 13 54 (.bool false) <| Dn <| Iz <| sw_skip <| sw_next <| sw_sr <| Go1 3 57 (Pp xb 3) <| Gq rfl (Lk 0 hH rfl rfl rfl) <| Go1 1 14 (.int .i64 part) <| Dn <| sw_sr ?_
 obtain ⟨D2, cu, pt, hcut⟩ : ∃ D2 cu pt, cutD D = (D2, cu, pt) := ⟨_, _, _, rfl⟩
 refine Go1 1 59 (Pp xb 0) ?_
 replace hH : Hp w w6 _ _ ([_] ++ [_, _, _]) := hH
 refine gl_st (Sc rfl rfl (RAct_ct xb _ D D2 cu pt part _ hcut hA hH.mine) ?_)
 rintro _ w40 ⟨rfl, hF41⟩
 replace hH := hH.turns hF41
 replace hH := hH.n4
 refine Go1 1 15 (.bool cu) <| Dn <| sw_seq <| sw_sr <| Go1 2 62 (.bool cu) <| gl_split 62 (b := cu) rfl (fun hg21 => ?_) (fun hg21 => ?_)
 refine gl_cv 15 (.bool true) (by rw [hg21]) rfl ?_
 subst hg21
 have hpt := cut_part hcut hP rfl
 refine Go1 3 65 (.bool false) <| Dn <| Iz <| sw_skip <| sw_next <| sw_seq <| sw_sr <| glo 8 [(0, Pp xb 0), (1, .int .i64 2), (2, .string (bs nm)), (3, .slice Ap p.length cp), (4, .int .i64 n), (12, Pp b3 0), (15, .bool true), (79, .bool false), (80, .int .i64 part)] <| gl_st (Sc rfl rfl (RMod_ct part 2 _ (by omega) (by omega)) ?_)
 rintro _ w42 ⟨rfl, hF43⟩
 replace hH := hH.call hF43
 refine Go1 2 83 (.bool (((modI part 2 : Nat) : Int) == (1 : Int))) <| Dn <| If rfl (fun hc23 => ?_) (fun hc23 => ?_)
 refine sw_seq <| sw_sr <| Go1 1 84 (.int .i64 2) <| Dn <| sw_block <| sw_sr <| Go1 2 85 (.bool false) <| Dn <| Iz <| sw_sr <| Go1 2 94 (.bool false) <| Dn <| Iz <| sw_sr <| Go1 2 100 (.bool true) <| Dn <| It <| sw_sr <| gl_st (st_buildS0 (e := 5) (m := 1) rfl rfl rfl (by kernel_rfl) (by kernel_rfl) hH ?_)
 clear hH; intro b44 w45 hH
 refine Go1 1 103 (.slice Ap p.length cp) <| gl_st (Apd (e := 5) (.int .u8 0) 1 1 4 rfl hH rfl rfl rfl (hp.row.mono hH.zin) (bv_one _) (by unfold maxLen; omega) (by omega) ?_)
 clear hH; intro v46 w47 hH
 replace hH := hH.row_eq 4 (l' := p.length) (xs' := bv p) rfl (Nat.zero_add _) (List.nil_append _)
 obtain ⟨A48, c49, rfl, hl50, hm51⟩ := hH.row_form 4 rfl
 refine Go1 1 105 (Pp b3 1) <| gl_st (Ks 2 (.slice A48 p.length c49) rfl hH rfl rfl ?_)
 clear hH; intro w52 hH
 refine Dn <| sw_region <| Go1 1 106 (.slice Ap p.length cp) <| Gq rfl (Ln (e := 5) rfl) <| Go1 1 108 (Pp b3 2) <| gl_st (Ks 2 (Ni p.length) rfl hH rfl rfl ?_)
 clear hH; intro w53 hH
 refine Dd <| bkN <| sw_next <| sw_sr <| Go1 2 124 (.bool false) <| Dn <| Iz <| sw_region <| Go1 1 128 (Pp xb 0) <| Gq rfl (La 2 [.string (bs nm), .slice A48 p.length c49, Ni p.length] hH rfl rfl) ?_
 replace hH : Hp w w53 _ _ ([_, _] ++ [_, _, _]) := hH.fr4
 refine gl_st (Sc rfl rfl (RSet_ct xb _ L (⟨nm, p, p.length⟩, Value.slice A48 p.length c49) _ _ _ _ hH.mine ⟨_, _, _, rfl⟩ hV (by omega)) ?_)
 rintro _ w54 ⟨rv2, rfl, hF55⟩
 replace hH := hH.turns hF55
 replace hH := hH.n5
 refine Dd <| sw_next <| sw_seq <| sw_sr <| Go1 1 131 (.bool true) <| Dn <| It <| sw_sr <| Go1 1 10 (.int .i64 80) <| Dn <| Rt1 rfl rfl ?_
 replace hH := hH.fr3
 replace hH : Hp w w54 _ _ (filR (⟨nm, p, p.length⟩, Value.slice A48 p.length c49) :: filRs L :: [.blk b3 83 [.string (bs nm), .slice A48 p.length c49, Ni p.length], .blk xb 72 [rv2, .bool D2.off, .int .i64 (actsI D2.ar), .int .i64 part], lstO rv2 (setL L (⟨nm, p, p.length⟩, Value.slice A48 p.length c49))]) := hH
 replace hH := rs_setL hH
 replace hH := hH.fr4.fr4
 replace hH := (hH.sb (slk (slk (slk sln)))).n3
 exact rfin_do (kind := 2) (th := false) (L' := setL L (⟨nm, p, p.length⟩, Value.slice A48 p.length c49)) (rv' := rv2) (p) 80 (by simp) rfl hm0 (fun h => absurd h.1 (by decide)) hcut (.inr (.inr (by rw [hpt]; omega))) (by simp) (by rw [setL_fs hF hG.srt]; unfold doF; rfl) ((hH.close (r := [])).turned)
 have hnrun : ¬ modI part 2 = 1 := by omega
 refine Sk <| sw_seq <| sw_sr <| Go1 1 131 (.bool true) <| Dn <| It <| sw_sr <| Go1 1 10 (.int .i64 80) <| Dn <| Rt1 rfl rfl ?_
 replace hH := hH.fr2.fr2.fr4
 replace hH := (hH.sb (slk (slk (slk sln)))).n3
 exact rfin_not (kind := 2) (th := false) hF 80 (by simp) rfl hm0 (fun h => absurd h.1 (by decide)) hcut (by rw [hpt]; simp [hnrun]) ((hH.close (r := [])).turned)
 refine gl_cv 15 (.bool false) (by rw [hg21]) rfl ?_
 subst hg21
 refine Go1 3 65 (.bool false) <| Dn <| Iz <| sw_skip <| sw_next <| sw_seq <| sw_sr <| Go1 11 83 (.bool true) <| Dn <| It <| sw_seq <| sw_sr <| glo 1 [(0, Pp xb 0), (1, .int .i64 2), (2, .string (bs nm)), (3, .slice Ap p.length cp), (4, .int .i64 n), (12, Pp b3 0), (15, .bool false), (84, .int .i64 2)] <| Dn <| sw_block <| sw_sr <| Go1 2 85 (.bool false) <| Dn <| Iz <| sw_sr <| Go1 2 94 (.bool false) <| Dn <| Iz <| sw_sr <| Go1 2 100 (.bool true) <| Dn <| It <| sw_sr <| gl_st (st_buildS0 (e := 5) (m := 1) rfl rfl rfl (by kernel_rfl) (by kernel_rfl) hH ?_)
 clear hH; intro b56 w57 hH
 refine Go1 1 103 (.slice Ap p.length cp) <| gl_st (Apd (e := 5) (.int .u8 0) 1 1 4 rfl hH rfl rfl rfl (hp.row.mono hH.zin) (bv_one _) (by unfold maxLen; omega) (by omega) ?_)
 clear hH; intro v58 w59 hH
 replace hH := hH.row_eq 4 (l' := p.length) (xs' := bv p) rfl (Nat.zero_add _) (List.nil_append _)
 obtain ⟨A60, c61, rfl, hl62, hm63⟩ := hH.row_form 4 rfl
 refine Go1 1 105 (Pp b3 1) <| gl_st (Ks 2 (.slice A60 p.length c61) rfl hH rfl rfl ?_)
 clear hH; intro w64 hH
 refine Dn <| sw_region <| Go1 1 106 (.slice Ap p.length cp) <| Gq rfl (Ln (e := 5) rfl) <| Go1 1 108 (Pp b3 2) <| gl_st (Ks 2 (Ni p.length) rfl hH rfl rfl ?_)
 clear hH; intro w65 hH
 refine Dd <| bkN <| sw_next <| sw_sr <| Go1 2 124 (.bool false) <| Dn <| Iz <| sw_region <| Go1 1 128 (Pp xb 0) <| Gq rfl (La 2 [.string (bs nm), .slice A60 p.length c61, Ni p.length] hH rfl rfl) ?_
 replace hH : Hp w w65 _ _ ([_, _] ++ [_, _, _]) := hH.fr4
 refine gl_st (Sc rfl rfl (RSet_ct xb _ L (⟨nm, p, p.length⟩, Value.slice A60 p.length c61) _ _ _ _ hH.mine ⟨_, _, _, rfl⟩ hV (by omega)) ?_)
 rintro _ w66 ⟨rv2, rfl, hF67⟩
 replace hH := hH.turns hF67
 replace hH := hH.n5
 refine Dd <| sw_next <| sw_seq <| sw_sr <| Go1 1 131 (.bool false) <| Dn <| Iz <| sw_skip <| sw_next <| sw_sr <| Go1 1 10 (.int .i64 0) <| Dn <| Rt1 rfl rfl ?_
 replace hH := hH.fr3
 replace hH : Hp w w66 _ _ (filR (⟨nm, p, p.length⟩, Value.slice A60 p.length c61) :: filRs L :: [.blk b3 83 [.string (bs nm), .slice A60 p.length c61, Ni p.length], .blk xb 72 [rv2, .bool D2.off, .int .i64 (actsI D2.ar), .int .i64 part], lstO rv2 (setL L (⟨nm, p, p.length⟩, Value.slice A60 p.length c61))]) := hH
 replace hH := rs_setL hH
 replace hH := hH.fr4.fr4
 replace hH := (hH.sb (slk (slk (slk sln)))).n3
 exact rfin_do (kind := 2) (th := false) (L' := setL L (⟨nm, p, p.length⟩, Value.slice A60 p.length c61)) (rv' := rv2) (p) 0 (by simp) rfl hm0 (fun h => absurd h.1 (by decide)) hcut (.inl rfl) (by simp) (by rw [setL_fs hF hG.srt]; unfold doF; rfl) ((hH.close (r := [])).turned)
theorem RDo4_ct (xb : Nat) (rv : Value) (D : Dsk) (part : Int) (L : FV) (nm : List UInt8) (vp : Value) (p : List UInt8) (n : Int) (M : Nat) (w : World) (hM : Mine w (ownR xb rv D part L)) (hF : L.map (·.1) = D.fs) (hA : ArOk D.ar) (hP : PartOk D.ar part) (hG : Good D.fs M) (hMM : M ≤ 140737488355328) (hN : L.length ≤ 900000) (hs : nm.length ≤ 140737488355328) (hp : RB (off w (blksOf (ownR xb rv D part L))) vp p) (hpl : p.length ≤ 140737488355328) :
    Fun Tryz.prog 11 [.pointer (some ⟨xb, 0, none⟩), .int .i64 4, .string (bs nm), vp, .int .i64 n] w fun v w' => RPost xb rv D part L (doD D 4 nm p n) w v w' := by
 obtain ⟨Ar, cr, rfl, hcr1, hcr2⟩ := (Row.of_own (hM.1 _ (List.mem_singleton.2 rfl) (lstO rv L) (by simp [rdkO]))).form
 have hcr3 := hcr2
 simp only [maxLen] at hcr3
 have hV : SlQ L := filRs_sl (hM.1 _ (List.mem_singleton.2 rfl) (filRs L) (by simp [rdkO]))
 obtain ⟨Ap, cp, rfl, hp1, hp2⟩ := hp.row.form
 refine fun_of_sw Tryz.func11 rfl 132 rfl rfl ?_
 have hH : Hp w w (off w (blksOf (ownR xb (.slice Ar L.length cr) D part L))) (blksOf (ownR xb (.slice Ar L.length cr) D part L)) (rdkO xb (.slice Ar L.length cr) D.off (actsI D.ar) part L ++ []) := (Hp.start_mine hM).open_
 replace hH : Hp w w _ _ [.blk xb 72 [.slice Ar L.length cr, .bool D.off, .int .i64 (actsI D.ar), .int .i64 part], .row (.slice Ar L.length cr) 83 3 L.length (rowC filC L), filRs L] := hH
 refine sw_sr <| Go0 1 <| Dn <| sw_sr <| Go3 8 16 (Pp xb 0) 17 (.string (bs nm)) 23 (.bool true) <| gl_st (Sc rfl rfl (RMay18_ct xb _ L D nm true _ (hH.blk_cell 0 rfl rfl) (hH.blk_cell 0 rfl rfl) (hH.row_reads 1 rfl) hF hs) ?_)
 rintro _ w1 ⟨rfl, hF2⟩
 replace hH := hH.call hF2
 refine Go1 1 11 (Ni (mayE D nm true)) <| Dn <| sw_seq <| sw_sr <| Go1 2 26 (.bool (((mayE D nm true : Nat) : Int) != (0 : Int))) <| Dn <| If rfl (fun hc1 => ?_) (fun hc1 => ?_)
 refine sw_sr <| Go1 2 10 (Ni (mayE D nm true)) <| Dn <| Rt1 rfl rfl ?_
 replace hH := (hH.sb (slk (slk (slk sln)))).n3
 exact rfin_err (kind := 4) (th := true) hF rfl (by omega) ((hH.close (r := [])).turned)
 have hm0 : mayE D nm true = 0 := by omega
 have hlt := rdk_lt hF hm0
 obtain ⟨b, sr, fv, hq, hold, hmem⟩ := rdk_find hF hlt
 obtain ⟨Af, cf, rfl, hf1, hf2⟩ := (filRs_rb3 hH 2 rfl hq).row.form
 have hbM := hG.short _ hmem
 have hsr := hG.sure _ hmem
 simp only at hbM hsr
 refine Sk <| sw_sr <| Go1 2 29 (.agg #[.string (bs nm), .slice none 0 0, .int .i64 0]) <| gl_st (Alc [.string (bs []), .slice none 0 0, .int .i64 0] rfl hH ?_)
 clear hH; intro b3 w4 hH
 refine gl_st (Ka 3 [.string (bs nm), .slice none 0 0, .int .i64 0] [.string (bs nm), .slice none 0 0, .int .i64 0] rfl hH rfl rfl ?_)
 clear hH; intro w5 hH
 refine Dn <| sw_sr <| Go2 2 30 (Pp xb 0) 31 (.string (bs nm)) <| gl_st (Sc rfl rfl (RFind_ct xb _ L nm _ (hH.blk_cell 0 rfl rfl) (hH.row_reads 1 rfl)) ?_)
 rintro _ w6 ⟨rfl, hF7⟩
 replace hH := hH.call hF7
 refine gl_cv 32 (Ni (fndI L nm)) (by unfold fndZ; rw [if_pos hlt]) rfl <| Go1 1 13 (Ni (fndI L nm)) <| Dn <| sw_seq <| sw_sr <| Go1 2 34 (.bool (decide (((fndI L nm : Nat) : Int) ≥ (0 : Int)))) <| Dn <| If rfl (fun hc2 => ?_) (fun hc2 => absurd hc2 (by omega))
 clear hc2
 refine sw_region <| Go1 3 37 (Pp xb 0) <| Gq rfl (Lk 0 hH rfl rfl rfl) ?_
 obtain ⟨b9, hb8, hi10⟩ := hH.row_idx 1 rfl (fndI L nm) (by omega)
 refine Go1 1 39 (Ni (fndI L nm)) <| Gq rfl (Ix (e := 83) 3 rfl rfl hi10) <| Gq rfl (rd_loadOA (q := 3) 1 (by kernel_rfl) hH rfl rfl hb8 (by kernel_rfl) [.string (bs nm), .slice Af b.length cf, Ni sr] rfl (rowC_allO filC_len hq _ rfl)) <| gl_st (Ka 3 [.string (bs nm), .slice Af b.length cf, Ni sr] [.string (bs nm), .slice Af b.length cf, Ni sr] rfl hH rfl rfl ?_)
 clear hH; intro w11 hH
 refine Dd <| sw_next <| sw_seq <| sw_sr <| Go1 13 54 (.bool false) <| Dn <| Iz <| sw_skip <| sw_next <| sw_sr <| Go1 3 57 (Pp xb 3) <| Gq rfl (Lk 0 hH rfl rfl rfl) <| Go1 1 14 (.int .i64 part) <| Dn <| sw_sr ?_
 obtain ⟨D2, cu, pt, hcut⟩ : ∃ D2 cu pt, cutD D = (D2, cu, pt) := ⟨_, _, _, rfl⟩
 refine Go1 1 59 (Pp xb 0) ?_
 replace hH : Hp w w11 _ _ ([_] ++ [_, _, _]) := hH
 refine gl_st (Sc rfl rfl (RAct_ct xb _ D D2 cu pt part _ hcut hA hH.mine) ?_)
 rintro _ w12 ⟨rfl, hF13⟩
 replace hH := hH.turns hF13
 replace hH := hH.n4
 refine glo 1 [(0, Pp xb 0), (1, .int .i64 4), (2, .string (bs nm)), (3, .slice Ap p.length cp), (4, .int .i64 n), (12, Pp b3 0), (14, .int .i64 part), (15, .bool cu)] <| Dn <| sw_seq <| sw_sr <| Go1 2 62 (.bool cu) <| gl_split 62 (b := cu) rfl (fun hg4 => ?_) (fun hg4 => ?_)
 refine gl_cv 15 (.bool true) (by rw [hg4]) rfl ?_
 subst hg4
 have hpt := cut_part hcut hP rfl
 refine Go1 3 65 (.bool false) <| Dn <| Iz <| sw_skip <| sw_next <| sw_seq <| sw_sr <| Go2 8 79 (.bool false) 80 (.int .i64 part) <| gl_st (Sc rfl rfl (RMod_ct part 2 _ (by omega) (by omega)) ?_)
 rintro _ w14 ⟨rfl, hF15⟩
 replace hH := hH.call hF15
 refine Go1 2 83 (.bool (((modI part 2 : Nat) : Int) == (1 : Int))) <| Dn <| If rfl (fun hc6 => ?_) (fun hc6 => ?_)
 refine sw_seq <| sw_sr <| Go1 1 84 (.int .i64 4) <| Dn <| sw_block <| sw_sr <| Go1 2 85 (.bool false) <| Dn <| Iz <| sw_sr <| Go1 2 94 (.bool false) <| Dn <| Iz <| sw_sr <| Go1 2 100 (.bool false) <| Dn <| Iz <| sw_sr <| Go1 2 109 (.bool false) <| Dn <| Iz <| sw_skip <| bkN <| sw_next <| sw_sr <| Go1 2 124 (.bool true) <| Dn <| It <| sw_region <| Go2 2 125 (Pp xb 0) 126 (.string (bs nm)) ?_
 replace hH : Hp w w14 _ _ ([_, _] ++ [_, _]) := hH.fr4
 refine gl_st (Sc rfl rfl (RUnset_ct xb _ L nm _ _ _ _ hH.mine hlt hV (by omega)) ?_)
 rintro _ w16 ⟨rv2, rfl, hF17⟩
 replace hH := hH.turns hF17
 replace hH := hH.n4
 refine Dd <| sw_next <| sw_seq <| sw_sr <| Go1 1 131 (.bool true) <| Dn <| It <| sw_sr <| Go1 1 10 (.int .i64 80) <| Dn <| Rt1 rfl rfl ?_
 replace hH := rs_del nm hH
 replace hH := hH.fr4.fr4
 replace hH := (hH.sb (slk (slk (slk sln)))).n3
 exact rfin_do (kind := 4) (th := true) (L' := delL L nm) (rv' := rv2) (p) 80 (by simp) rfl hm0 (fun h => absurd h.1 (by decide)) hcut (.inr (.inr (by rw [hpt]; omega))) (by simp) (by rw [delL_fs hF hG.srt hlt]; unfold doF; rfl) ((hH.close (r := [])).turned)
 have hnrun : ¬ modI part 2 = 1 := by omega
 refine Sk <| sw_seq <| sw_sr <| Go1 1 131 (.bool true) <| Dn <| It <| sw_sr <| Go1 1 10 (.int .i64 80) <| Dn <| Rt1 rfl rfl ?_
 replace hH := hH.fr2.fr2.fr4
 replace hH := (hH.sb (slk (slk (slk sln)))).n3
 exact rfin_not (kind := 4) (th := true) hF 80 (by simp) rfl hm0 (fun h => absurd h.1 (by decide)) hcut (by rw [hpt]; simp [hnrun]) ((hH.close (r := [])).turned)
 refine gl_cv 15 (.bool false) (by rw [hg4]) rfl ?_
 subst hg4
 refine Go1 3 65 (.bool false) <| Dn <| Iz <| sw_skip <| sw_next <| sw_seq <| sw_sr <| Go1 11 83 (.bool true) <| Dn <| It <| sw_seq <| sw_sr <| Go1 1 84 (.int .i64 4) <| Dn <| sw_block <| sw_sr <| Go1 2 85 (.bool false) <| Dn <| Iz <| sw_sr <| Go1 2 94 (.bool false) <| Dn <| Iz <| sw_sr <| Go1 2 100 (.bool false) <| Dn <| Iz <| sw_sr <| Go1 2 109 (.bool false) <| Dn <| Iz <| sw_skip <| bkN <| sw_next <| sw_sr <| Go1 2 124 (.bool true) <| Dn <| It <| sw_region <| Go2 2 125 (Pp xb 0) 126 (.string (bs nm)) ?_
 replace hH : Hp w w12 _ _ ([_, _] ++ [_, _]) := hH.fr4
 refine gl_st (Sc rfl rfl (RUnset_ct xb _ L nm _ _ _ _ hH.mine hlt hV (by omega)) ?_)
 rintro _ w18 ⟨rv2, rfl, hF19⟩
 replace hH := hH.turns hF19
 replace hH := hH.n4
 refine Dd <| sw_next <| sw_seq <| sw_sr <| Go1 1 131 (.bool false) <| Dn <| Iz <| sw_skip <| sw_next <| sw_sr <| Go1 1 10 (.int .i64 0) <| Dn <| Rt1 rfl rfl ?_
 replace hH := rs_del nm hH
 replace hH := hH.fr4.fr4
 replace hH := (hH.sb (slk (slk (slk sln)))).n3
 exact rfin_do (kind := 4) (th := true) (L' := delL L nm) (rv' := rv2) (p) 0 (by simp) rfl hm0 (fun h => absurd h.1 (by decide)) hcut (.inl rfl) (by simp) (by rw [delL_fs hF hG.srt hlt]; unfold doF; rfl) ((hH.close (r := [])).turned)
end Go.Proofs.YtajapgjemefoiaaGreatDoor
/- Layer 18 (disk): what holds of a disk's state, the program's and the document's; what is sure lasts. Plain mathematics. -/
set_option linter.unusedVariables false
namespace Go.Proofs.YtajapgjemefoiaaGreatDoor
open Go.RowKit Go.SW
theorem arOk_do {D : Dsk} (h : ArOk D.ar) (kind : Nat) (nm p : List UInt8) (n : Int) : ArOk (doD D kind nm p n).1.ar := by
  unfold doD
  split
  · exact h
  split
  · exact h
  · exact arOk_cut h
theorem len_doF (F : List Fil) (kind : Nat) (nm p : List UInt8) (n : Nat) : (doF F kind nm p n).length ≤ F.length + 1 := by
  have hs : ∀ f : Fil, (setF F f).length ≤ F.length + 1 := by
    intro f
    unfold setF
    rw [List.length_append, List.length_cons]
    have h : ∀ (F : List Fil), (F.filter (fun g => decide (g.name < f.name))).length + (F.filter (fun g => decide (f.name < g.name))).length ≤ F.length := by
      intro F
      induction F with
      | nil => simp
      | cons g F ih =>
        rw [List.filter_cons, List.filter_cons, List.length_cons]
        by_cases h1 : g.name < f.name
        · have h2 : ¬ f.name < g.name := fun h => bl_irrefl _ (bl_trans h1 h)
          simp only [h1, h2, decide_true, decide_false, if_true, Bool.false_eq_true, if_false, List.length_cons]; omega
        · by_cases h2 : f.name < g.name <;> simp only [h1, h2, decide_true, decide_false, if_true, Bool.false_eq_true, if_false, List.length_cons] <;> omega
    have := h F
    omega
  unfold doF
  split
  · exact hs _
  · exact hs _
  · exact hs _
  · exact hs _
  · unfold delF
    have := List.length_filter_le (fun g : Fil => !(g.name == nm)) F
    omega
theorem len_doD (D : Dsk) (kind : Nat) (nm p : List UInt8) (n : Int) : (doD D kind nm p n).1.fs.length ≤ D.fs.length + 1 := by
  unfold doD
  split
  · simp only; omega
  split
  · simp only; omega
  · simp only
    split
    · exact len_doF _ _ _ _ _
    · omega
theorem doF2 (F : List Fil) (nm p : List UInt8) (n : Nat) : doF F 2 nm p n = setF F ⟨nm, p, p.length⟩ := rfl
def Sure (F : List Fil) : Prop := ∀ f ∈ F, f.sure = f.b.length
theorem modI_one (n : Int) : modI n 1 = 0 := by have := modI_lt n (show 0 < 1 by omega); omega
theorem startF1_sure {f : Fil} (h : f.sure = f.b.length) (i : Nat) (ks : List Int) : startF1 f i ks = f := by
  have e : startS f i ks = f.sure := by
    unfold startS
    rw [show f.b.length - f.sure + 1 = 1 by omega, modI_one]
    split <;> rfl
  unfold startF1
  rw [e, h, List.take_length]
  cases f; simp_all
theorem start_sure {F : List Fil} (h : Sure F) (ks : List Int) : startF F ks = F := by
  unfold startF
  apply List.ext_getElem?
  intro j
  rw [List.getElem?_mapIdx]
  cases hj : F[j]? with
  | none => rfl
  | some f => simp only [Option.map_some]; rw [startF1_sure (h f (List.mem_of_getElem? hj))]
end Go.Proofs.YtajapgjemefoiaaGreatDoor
/- Layer 18 (disk): what holds of a disk's state, the program's and the document's. Plain mathematics. -/
set_option linter.unusedVariables false
namespace Go.Proofs.YtajapgjemefoiaaGreatDoor
open Go.RowKit Go.SW
theorem part_do {D : Dsk} {part : Int} (h : PartOk D.ar part) (kind : Nat) (nm p : List UInt8) (n : Int) : PartOk (doD D kind nm p n).1.ar part := by
  unfold doD
  split
  · exact h
  split
  · exact h
  · exact part_cut h
/-- What holds between a disk's state, the program's and the document's. -/
structure Inv (D : Dsk) (es : List PE) (L : FV) (part : Int) (M N : Nat) : Prop where
  rep : Rep es D.fs
  fst : L.map (·.1) = D.fs
  ar : ArOk D.ar
  part : PartOk D.ar part
  good : Good D.fs M
  len : D.fs.length ≤ N
theorem Inv.llen {D : Dsk} {es : List PE} {L : FV} {part : Int} {M N : Nat} (h : Inv D es L part M N) : L.length ≤ N := by
  have := congrArg List.length h.fst
  have h2 := h.len
  simp only [List.length_map] at this
  omega
theorem inv_do {D : Dsk} {es es' : List PE} {L L' : FV} {part : Int} {M N : Nat} (h : Inv D es L part M N) {kind : Nat} {nm b : List UInt8} {n : Int} {R : Dsk × Nat} (hr : doD D kind nm b n = R) (h1 : Rep es' R.1.fs) (h2 : L'.map (·.1) = R.1.fs) : Inv R.1 es' L' part (M + b.length) (N + 1) := by
  subst hr
  exact ⟨h1, h2, arOk_do h.ar _ _ _ _, part_do h.part _ _ _ _, good_doD h.good _ _ _ _, Nat.le_trans (len_doD _ _ _ _ _) (by have := h.len; omega)⟩
theorem inv_new (N : Nat) : Inv ⟨[], false, none⟩ [] [] 0 N 0 :=
  ⟨⟨List.Pairwise.nil, List.Perm.refl _⟩, rfl, (fun a p e => by cases e), (fun a p e => by cases e), good_nil N, Nat.le_refl _⟩
end Go.Proofs.YtajapgjemefoiaaGreatDoor
/- Layer 18 (disk), the document's own: Same, New: what they answer. -/
set_option maxRecDepth 100000
set_option maxHeartbeats 4000000
set_option linter.unusedVariables false
set_option linter.unusedSimpArgs false
namespace Go.Proofs.YtajapgjemefoiaaGreatDoor
open Go.RowKit Go.SW
section
variable {w w0 : World} {z : Zone} {F : List Nat} {os : List Own} {xb : Nat} {rv : Value} {pw : Bool} {acts part : Int} {L : FV}
theorem rdk_own (hH : Hp w0 w z F os) (k : Nat) (hk : os[k]? = some (.grp (rdkO xb rv pw acts part L))) : ∀ o ∈ rdkO xb rv pw acts part L, o.at w := hH.own _ (List.mem_of_getElem? hk)
theorem rdk_c0 (hH : Hp w0 w z F os) (k : Nat) (hk : os[k]? = some (.grp (rdkO xb rv pw acts part L))) : w.cell? ⟨xb, 0, none⟩ = some rv := by
  have h : w.heap[xb]? = some (.cells #[rv, .bool pw, .int .i64 acts, .int .i64 part] 72 (0, 0)) := rdk_own hH k hk (rhdO xb rv pw acts part) (by simp [rdkO])
  simp [World.cell?, h]
theorem rdk_c1 (hH : Hp w0 w z F os) (k : Nat) (hk : os[k]? = some (.grp (rdkO xb rv pw acts part L))) : w.cell? ⟨xb, 1, none⟩ = some (.bool pw) := by
  have h : w.heap[xb]? = some (.cells #[rv, .bool pw, .int .i64 acts, .int .i64 part] 72 (0, 0)) := rdk_own hH k hk (rhdO xb rv pw acts part) (by simp [rdkO])
  simp [World.cell?, h]
theorem rdk_rw (hH : Hp w0 w z F os) (k : Nat) (hk : os[k]? = some (.grp (rdkO xb rv pw acts part L))) : Row w.cell? rv 3 L.length (rowC filC L) := Row.of_own (rdk_own hH k hk (lstO rv L) (by simp [rdkO]))
theorem rdk_rbs (hH : Hp w0 w z F os) (k : Nat) (hk : os[k]? = some (.grp (rdkO xb rv pw acts part L))) : ∀ q ∈ L, RB w.cell? q.2 q.1.b := by
  intro q hq
  have h1 : ∀ o ∈ L.map filR, o.at w := rdk_own hH k hk (filRs L) (by simp [rdkO])
  exact Row.of_own (h1 (filR q) (List.mem_map.2 ⟨q, hq, rfl⟩))
end

theorem RNew18_ct (w : World) : Fun Tryz.prog 9 [] w fun v w' => ∃ xb, v = .pointer (some ⟨xb, 0, none⟩) ∧ Fresh w w' [.grp (rdkO xb (.slice none 0 0) false (-1) 0 [])] := by
 refine fun_of_sw Tryz.func9 rfl 3 rfl rfl ?_
 have hH := Hp.start w
 refine sw_sr <| Go0 1 <| Dn <| sw_sr <| Go1 1 1 (.agg #[.slice none 0 0, .bool false, .int .i64 (-1), .int .i64 0]) <| gl_st (Bx [.slice none 0 0, .bool false, .int .i64 (-1), .int .i64 0] rfl hH ?_)
 clear hH; intro b1 w2 hH
 refine Go1 1 0 (Pp b1 0) <| Dn <| Rt1 rfl rfl ?_
 have h3 := (hH.nilRow 83 3).nogrp
 have h4 : Hp w w2 _ _ (rdkO b1 (.slice none 0 0) false (-1) 0 [] ++ []) := h3
 exact ⟨_, rfl, h4.close.fresh⟩
end Go.Proofs.YtajapgjemefoiaaGreatDoor
/- Layer 19 (wal): records, what a log says, what is done to it. Plain mathematics. -/
set_option linter.unusedVariables false
namespace Go.Proofs.YtajapgjemefoiaaGreatDoor
open Go.SW Go.RowKit
/-- An entry. -/
structure En where
  ix : Nat
  tm : Nat
  kd : Nat
  d : List UInt8
/-- What a log says. -/
structure Cn where
  term : Nat
  vote : Nat
  ix : Nat
  ah : Nat
  es : List En
/-- A record. -/
structure Rc where
  k : Nat
  a : Nat
  b : Nat
  c : Nat
  d : List UInt8
def Cn.zero : Cn := ⟨0, 0, 0, 0, []⟩
def putC (c : Cn) (e : En) : Option Cn := if e.ix ≤ c.ix ∨ c.ix + c.es.length < e.ix - 1 then none else some { c with es := c.es.take (e.ix - c.ix - 1) ++ [e] }
def doC (c : Cn) (r : Rc) (first : Bool) : Option Cn :=
  if r.k = 1 then some { c with term := r.a, vote := r.b } else if r.k = 2 then putC c ⟨r.a, r.b, r.c, r.d⟩ else if first = true then some { c with ix := r.a, ah := r.b, es := [] } else none
def doAll : Cn → List Rc → Bool → Option Cn
  | c, [], _ => some c
  | c, r :: rs, first => (doC c r first).bind fun c' => doAll c' rs false
def recP (r : Rc) : List UInt8 := numB r.k ++ numB r.a ++ numB r.b ++ (if r.k = 2 then numB r.c ++ blobB r.d else [])
def recB (r : Rc) : List UInt8 := frameO (recP r)
def enR (e : En) : Rc := ⟨2, e.ix, e.tm, e.kd, e.d⟩
def stR (t v : Nat) : Rc := ⟨1, t, v, 0, []⟩
def baR (i a : Nat) : Rc := ⟨3, i, a, 0, []⟩
def recsB (rs : List Rc) : List UInt8 := (rs.map recB).flatten
def readR (p : List UInt8) : Option Rc :=
  if (takeNum p).2.2 ≠ 0 then none else
  if (takeNum (p.drop (takeNum p).2.1)).2.2 ≠ 0 then none else
  if (takeNum ((p.drop (takeNum p).2.1).drop (takeNum (p.drop (takeNum p).2.1)).2.1)).2.2 ≠ 0 then none else
  let k := (takeNum p).1
  let p1 := p.drop (takeNum p).2.1
  let a := (takeNum p1).1
  let p2 := p1.drop (takeNum p1).2.1
  let b := (takeNum p2).1
  let p3 := p2.drop (takeNum p2).2.1
  if k = 2 then
    if (takeNum p3).2.2 ≠ 0 then none else
    let p4 := p3.drop (takeNum p3).2.1
    if (takeBlob p4).2.2 ≠ 0 then none else
    if p4.drop (takeBlob p4).2.1 = [] then some ⟨2, a, b, (takeNum p3).1, (takeBlob p4).1⟩ else none
  else if (k = 1 ∨ k = 3) ∧ p3 = [] then some ⟨k, a, b, 0, []⟩ else none
abbrev decB (n : Nat) : List UInt8 := Lib.decDigits n
def nameF (k : Nat) : List UInt8 := [108, 111, 103] ++ decB k
def decV (l : List UInt8) : Nat := l.foldl (fun n c => 10 * n + (c.toNat - 48)) 0
def numF (s : List UInt8) : Nat :=
  if s.take 3 = [108, 111, 103] ∧ 3 < s.length ∧ gb s 3 ≠ 48 ∧ s.length ≤ 12 ∧ (s.drop 3).all (fun c => decide (48 ≤ c.toNat) && decide (c.toNat ≤ 57)) = true then decV (s.drop 3) else 0
/-- A file of the log: its number, its records, how long its frames are, does more stand behind them? -/
structure Pt where
  k : Nat
  rs : List Rc
  whole : Nat
  more : Bool
def rowsR : List (List UInt8) → Option (List Rc)
  | [] => some []
  | p :: r => (readR p).bind fun x => (rowsR r).map (x :: ·)
def ptF (f : Fil) : Option Pt := (rowsR (scanA f.b 0).1).map fun rs => ⟨numF f.name, rs, (scanA f.b 0).2.1, decide ((scanA f.b 0).2.2 ≠ 0)⟩
def partsF : List Fil → Option (List Pt)
  | [] => some []
  | f :: r => if numF f.name = 0 then partsF r else (ptF f).bind fun p => (partsF r).map (p :: ·)
/-- The log's state in memory. -/
structure Lg where
  c : Cn
  file : Nat
  long : Nat
  bad : Nat
/-- An entry, as it is handed in. -/
structure EA where
  ix : Int
  tm : Int
  kd : Int
  d : List UInt8
def EA.en (e : EA) : En := ⟨e.ix.toNat, e.tm.toNat, e.kd.toNat, e.d⟩
def putsA : Cn → List EA → Option Cn
  | c, [] => some c
  | c, e :: r => if e.tm < 0 ∨ e.kd < 0 ∨ e.ix ≤ c.ix then none else (putC c e.en).bind fun c' => putsA c' r
def saveB (c : Cn) (t v : Nat) (es : List En) : List UInt8 := (if t ≠ c.term ∨ v ≠ c.vote then recB (stR t v) else []) ++ recsB (es.map enR)
def saveL (D : Dsk) (l : Lg) (t v : Int) (es : List EA) : Dsk × Lg × Nat :=
  if l.bad ≠ 0 then (D, l, l.bad) else
  match putsA l.c es with
  | none => (D, l, 1)
  | some c' =>
    if t < 0 ∨ v < 0 then (D, l, 1) else
    if es.any (fun e => decide (65536 < e.d.length)) = true then (D, l, 2) else
    let b := saveB l.c t.toNat v.toNat (es.map EA.en)
    if b = [] then (D, l, 0) else
    let fi := if 1024 ≤ l.long then l.file + 1 else l.file
    let lo := (if 1024 ≤ l.long then 0 else l.long) + b.length
    let R1 := doD D 0 (nameF fi) b 0
    if R1.2 ≠ 0 then (R1.1, ⟨l.c, fi, lo, R1.2⟩, R1.2) else
    let R2 := doD R1.1 1 (nameF fi) [] 0
    if R2.2 ≠ 0 then (R2.1, ⟨l.c, fi, lo, R2.2⟩, R2.2) else (R2.1, ⟨{ c' with term := t.toNat, vote := v.toNat }, fi, lo, 0⟩, 0)
def allR (c : Cn) : List Rc := baR c.ix c.ah :: stR c.term c.vote :: c.es.map enR
def remAll : Dsk → List Nat → Dsk × Nat
  | D, [] => (D, 0)
  | D, k :: r => if (doD D 4 (nameF k) [] 0).2 ≠ 0 then doD D 4 (nameF k) [] 0 else remAll (doD D 4 (nameF k) [] 0).1 r
def sortP (l : List Pt) : List Pt := l.mergeSort fun a b => decide (a.k ≤ b.k)
def keepC (c : Cn) (i t : Nat) : Cn :=
  { c with ix := i, ah := t, es := if i = c.ix ∧ t = c.ah then c.es else if c.ix < i ∧ i - c.ix ≤ c.es.length ∧ (c.es[i - c.ix - 1]?).map (·.tm) = some t then c.es.drop (i - c.ix) else [] }
def compactL (D : Dsk) (l : Lg) (i t : Int) : Dsk × Lg × Nat :=
  if l.bad ≠ 0 then (D, l, l.bad) else if i < 0 ∨ t < 0 then (D, l, 1) else
  let c' := keepC l.c i.toNat t.toNat
  let b := recsB (allR c')
  let R1 := doD D 2 (nameF (l.file + 1)) b 0
  if R1.2 ≠ 0 then (R1.1, ⟨l.c, l.file + 1, b.length, R1.2⟩, R1.2) else
  let R2 := remAll R1.1 (((partsF D.fs).map fun ps => (sortP ps).map (·.k)).getD [])
  (R2.1, ⟨if R2.2 = 0 then c' else l.c, l.file + 1, b.length, R2.2⟩, R2.2)
end Go.Proofs.YtajapgjemefoiaaGreatDoor
/- Layer 19 (wal): what was laid is read again: frames behind one another, records, names. Plain mathematics. -/
set_option linter.unusedVariables false
namespace Go.Proofs.YtajapgjemefoiaaGreatDoor
open Go.SW Go.RowKit
theorem openF_app (p r : List UInt8) (h : p.length ≤ 1048576) : openF (frameB p ++ r) = (p, p.length + 8, 0) := by
  have hg : get4 (frameB p ++ r) = p.length := by
    unfold frameB; rw [List.append_assoc, List.append_assoc]; exact four_get4 _ (by omega) _
  have hl := frameB_length p
  have ht : (frameB p ++ r).take (p.length + 4) = four p.length ++ p := by
    unfold frameB
    rw [List.append_assoc]
    exact List.take_left' (by rw [List.length_append, four_length]; omega)
  have hd : (frameB p ++ r).drop (p.length + 4) = four (crc (four p.length ++ p)) ++ r := by
    unfold frameB
    rw [List.append_assoc]
    exact List.drop_left' (by rw [List.length_append, four_length]; omega)
  have hd4 : ((frameB p ++ r).drop 4).take p.length = p := by
    unfold frameB
    rw [List.append_assoc, List.append_assoc, List.drop_left' (four_length _), List.take_left]
  unfold openF
  rw [if_neg (by rw [List.length_append]; omega), hg, if_neg (by omega), if_neg (by rw [List.length_append]; omega), ht, hd, hd4]
  rw [four_get4 (crc (four p.length ++ p)) (crc_lt _) r, if_neg (fun h => h rfl)]
def framesB (ps : List (List UInt8)) : List UInt8 := (ps.map frameB).flatten
theorem framesB_cons (p : List UInt8) (ps : List (List UInt8)) : framesB (p :: ps) = frameB p ++ framesB ps := rfl
theorem scan_frames : ∀ (ps : List (List UInt8)) (pre rest : List UInt8), (∀ p ∈ ps, p.length ≤ 1048576) → scanA (pre ++ (framesB ps ++ rest)) pre.length = (ps ++ (scanA (pre ++ (framesB ps ++ rest)) (pre.length + (framesB ps).length)).1, (scanA (pre ++ (framesB ps ++ rest)) (pre.length + (framesB ps).length)).2)
  | [], pre, rest, _ => by simp [framesB]
  | p :: ps, pre, rest, h => by
    have hp := h p List.mem_cons_self
    have ho : openF ((pre ++ (framesB (p :: ps) ++ rest)).drop pre.length) = (p, p.length + 8, 0) := by
      rw [List.drop_left, framesB_cons, List.append_assoc]
      exact openF_app p _ hp
    have hlt : pre.length < (pre ++ (framesB (p :: ps) ++ rest)).length := by
      rw [framesB_cons]
      simp only [List.length_append, frameB_length]
      omega
    have ih := scan_frames ps (pre ++ frameB p) rest (fun q hq => h q (List.mem_cons_of_mem _ hq))
    have e : pre ++ frameB p ++ (framesB ps ++ rest) = pre ++ (framesB (p :: ps) ++ rest) := by rw [framesB_cons]; simp
    rw [e, List.length_append, frameB_length] at ih
    rw [scan_step hlt (by rw [ho]), ho]
    simp only
    rw [ih, framesB_cons, List.length_append, frameB_length, Nat.add_assoc pre.length (p.length + 8)]
    rfl
theorem scan_all {ps : List (List UInt8)} (h : ∀ p ∈ ps, p.length ≤ 1048576) : scanA (framesB ps) 0 = (ps, (framesB ps).length, 0) := by
  have := scan_frames ps [] [] h
  simp only [List.nil_append, List.append_nil, List.length_nil, Nat.zero_add] at this
  rw [this, scan_end (Nat.le_refl _)]
  simp
/-- A record that may be. -/
structure RcOk (r : Rc) : Prop where
  a : r.a < 9223372036854775808
  b : r.b < 9223372036854775808
  c : r.c < 9223372036854775808
  k : r.k = 2 ∧ r.d.length ≤ 65536 ∨ (r.k = 1 ∨ r.k = 3) ∧ r.c = 0 ∧ r.d = []
theorem numB_le9 (n : Nat) (h : n < 9223372036854775808) : (numB n).length ≤ 9 := by
  have := (numLen_bd n h).2.1
  rw [numB_length]; omega
theorem recP_len {r : Rc} (h : RcOk r) : (recP r).length ≤ 1048576 := by
  have h0 : r.k < 9223372036854775808 := by rcases h.k with h | h <;> omega
  have h1 := numB_le9 _ h0
  have h2 := numB_le9 _ h.a
  have h3 := numB_le9 _ h.b
  have h4 := numB_le9 _ h.c
  unfold recP
  simp only [List.length_append]
  split
  · rename_i hk
    have hd : r.d.length ≤ 65536 := by rcases h.k with h | h <;> omega
    have h5 := numB_le9 r.d.length (by omega)
    unfold blobB
    rw [if_neg (by omega)]
    simp only [List.length_append]
    omega
  · simp only [List.length_nil]; omega
theorem recB_eq {r : Rc} (h : RcOk r) : recB r = frameB (recP r) := by
  have := recP_len h
  unfold recB frameO
  rw [if_neg (by omega)]
theorem readR_recP {r : Rc} (h : RcOk r) : readR (recP r) = some r := by
  have h0 : r.k < 9223372036854775808 := by rcases h.k with h | h <;> omega
  obtain ⟨k, a, b, c, d⟩ := r
  obtain ⟨ha, hb, hc, hk⟩ := h
  simp only at ha hb hc hk h0
  obtain ⟨x, hx⟩ : ∃ x, x = (if k = 2 then numB c ++ blobB d else []) := ⟨_, rfl⟩
  have e : recP ⟨k, a, b, c, d⟩ = numB k ++ (numB a ++ (numB b ++ x)) := by unfold recP; rw [hx]; simp
  have t1 := takeNum_numB k h0 (numB a ++ (numB b ++ x))
  have t2 := takeNum_numB a ha (numB b ++ x)
  have t3 := takeNum_numB b hb x
  unfold readR
  rw [e]
  simp only [t1, List.drop_left, t2, t3, ne_eq, not_true_eq_false, if_false]
  rcases hk with ⟨hk, hd⟩ | ⟨hk, rfl, rfl⟩
  · subst hk
    rw [if_pos rfl] at hx
    have t4 := takeNum_numB c hc (blobB d)
    have t5 := takeBlob_blobB d (by omega) []
    rw [List.append_nil] at t5
    subst hx
    simp only [t4, List.drop_left, t5, if_true, not_true_eq_false, if_false, List.drop_length]
  · rw [if_neg (by omega)] at hx
    subst hx
    rw [if_neg (by omega), if_pos ⟨hk, rfl⟩]
theorem rowsR_recP : ∀ {rs : List Rc}, (∀ r ∈ rs, RcOk r) → rowsR (rs.map recP) = some rs
  | [], _ => rfl
  | r :: rs, h => by
    rw [List.map_cons, rowsR, readR_recP (h r List.mem_cons_self), rowsR_recP (fun q hq => h q (List.mem_cons_of_mem _ hq))]
    rfl
theorem recsB_eq : ∀ {rs : List Rc}, (∀ r ∈ rs, RcOk r) → recsB rs = framesB (rs.map recP)
  | [], _ => rfl
  | r :: rs, h => by
    have ih := recsB_eq (fun q hq => h q (List.mem_cons_of_mem _ hq) : ∀ q ∈ rs, RcOk q)
    show recB r ++ recsB rs = frameB (recP r) ++ framesB (rs.map recP)
    rw [recB_eq (h r List.mem_cons_self), ih]
theorem decV_snoc (l : List UInt8) (c : UInt8) : decV (l ++ [c]) = 10 * decV l + (c.toNat - 48) := by unfold decV; rw [List.foldl_append]; rfl
theorem dig_nat {u : Nat} (h : u < 10) : (UInt8.ofNat (48 + u)).toNat = 48 + u := by rw [UInt8.toNat_ofNat']; omega
theorem decV_dec : ∀ (u : Nat), decV (decB u) = u := by
  intro u
  induction u using Nat.strongRecOn with
  | ind u ih =>
    unfold decB
    rw [Lib.decDigits]
    split
    · rename_i h
      show 10 * 0 + ((UInt8.ofNat (48 + u)).toNat - 48) = u
      rw [dig_nat h]; omega
    · rename_i h
      have h2 := ih (u / 10) (by omega)
      rw [decV_snoc, h2, dig_nat (Nat.mod_lt _ (by omega))]
      omega
theorem dec_digits : ∀ (u : Nat), (decB u).all (fun c => decide (48 ≤ c.toNat) && decide (c.toNat ≤ 57)) = true := by
  intro u
  induction u using Nat.strongRecOn with
  | ind u ih =>
    unfold decB
    rw [Lib.decDigits]
    split
    · rename_i h
      simp only [List.all_cons, List.all_nil, Bool.and_true, dig_nat h]
      simp; omega
    · rename_i h
      have h2 := ih (u / 10) (by omega)
      rw [List.all_append, h2]
      simp only [List.all_cons, List.all_nil, Bool.and_true, Bool.true_and, dig_nat (Nat.mod_lt u (show 0 < 10 by omega))]
      simp; omega
theorem dec_head : ∀ (u : Nat), 0 < u → ∃ c l, decB u = c :: l ∧ c.toNat ≠ 48 := by
  intro u
  induction u using Nat.strongRecOn with
  | ind u ih =>
    intro h0
    unfold decB
    rw [Lib.decDigits]
    split
    · rename_i h
      exact ⟨_, [], rfl, by rw [dig_nat h]; omega⟩
    · rename_i h
      obtain ⟨c, l, e, hc⟩ := ih (u / 10) (by omega) (by omega)
      unfold decB at e
      rw [e]
      exact ⟨c, l ++ [_], rfl, hc⟩
theorem nDig_le : ∀ (k u : Nat), u < 10 ^ (k + 1) → Lib.nDigits u ≤ k + 1
  | 0, u, h => by rw [Lib.nDigits_small (by simpa using h)]; omega
  | k + 1, u, h => by
    by_cases hu : u < 10
    · rw [Lib.nDigits_small hu]; omega
    · rw [Lib.nDigits_big hu]
      have := nDig_le k (u / 10) (by rw [Nat.pow_succ] at h; omega)
      omega
theorem dec_len {u : Nat} (h : u < 1000000000) : (decB u).length ≤ 9 := by
  rw [show (decB u).length = Lib.nDigits u from Lib.decDigits_length u]
  exact nDig_le 8 u (by simpa using h)
theorem numF_nameF {k : Nat} (h0 : 0 < k) (h : k < 1000000000) : numF (nameF k) = k := by
  obtain ⟨c, l, e, hc⟩ := dec_head k h0
  have hl := dec_len h
  have hd := dec_digits k
  have hv := decV_dec k
  unfold numF nameF
  rw [e] at hl hd hv ⊢
  have e3 : ([108, 111, 103] ++ c :: l : List UInt8).drop 3 = c :: l := rfl
  rw [e3, if_pos ⟨rfl, by simp, by simpa [gb] using hc, by simpa using hl, hd⟩, hv]
theorem nameF_inj {j k : Nat} (h : nameF j = nameF k) : j = k := by
  have h1 : decB j = decB k := List.append_cancel_left h
  rw [← decV_dec j, h1, decV_dec]
end Go.Proofs.YtajapgjemefoiaaGreatDoor
/- Layer 19 (wal): opening; which disks hold a log, and that it is opened as it was left. Plain mathematics. -/
set_option linter.unusedVariables false
namespace Go.Proofs.YtajapgjemefoiaaGreatDoor
open Go.SW Go.RowKit
def isBase (p : Pt) : Bool := match p.rs with | r :: _ => decide (r.k = 3) | [] => false
def okP : List Pt → Bool
  | [] => true
  | [p] => decide (p.k ≤ 100000000)
  | p :: q :: r => decide (p.k ≤ 100000000) && !p.more && decide (p.k + 1 = q.k) && okP (q :: r)
def fromP : List Pt → Option Nat
  | [] => none
  | p :: r => match fromP r with | some i => some (i + 1) | none => if isBase p = true then some 0 else none
def readL (ps : List Pt) : Option (Nat × Cn) :=
  if okP ps = true then (fromP ps).bind fun i => (doAll Cn.zero ((ps.drop i).map (·.rs)).flatten true).map fun c => (i, c) else none
def lastP (ps : List Pt) : Pt := ps.getLast?.getD ⟨0, [], 0, false⟩
def openL (D : Dsk) : Dsk × Option Lg × Nat :=
  if D.off = true then (D, none, 80) else
  match partsF D.fs with
  | none => (D, none, 90)
  | some ps0 =>
    let ps := sortP ps0
    if ps.length = 0 then
      let b := recsB (allR Cn.zero)
      let R := doD D 2 (nameF 1) b 0
      if R.2 ≠ 0 then (R.1, none, R.2) else (R.1, some ⟨Cn.zero, 1, b.length, 0⟩, 0)
    else match readL ps with
    | none => (D, none, 90)
    | some (i, c) =>
      let R := remAll D ((ps.take i).map (·.k))
      if R.2 ≠ 0 then (R.1, none, R.2) else
      let p := lastP ps
      let R2 := if p.more = true then doD R.1 3 (nameF p.k) [] p.whole else (R.1, 0)
      if R2.2 ≠ 0 then (R2.1, none, R2.2) else
      let R3 := doD R2.1 1 (nameF p.k) [] 0
      if R3.2 ≠ 0 then (R3.1, none, R3.2) else (R3.1, some ⟨c, p.k, p.whole, 0⟩, 0)
theorem decV_dec2 : ∀ (n : Nat) (l : List UInt8), l.length = n → (∀ c ∈ l, 48 ≤ c.toNat ∧ c.toNat ≤ 57) → (∀ c r, l = c :: r → c.toNat ≠ 48) → l ≠ [] → 0 < decV l ∧ decB (decV l) = l := by
  intro n
  induction n with
  | zero => intro l hl _ _ h; exact absurd (List.length_eq_zero_iff.1 hl) h
  | succ n ih =>
    intro l hln hd hh hne
    rcases List.eq_nil_or_concat l with rfl | ⟨l, c, rfl⟩
    · exact absurd rfl hne
    rw [List.concat_eq_append] at *
    have hln2 : l.length = n := by simp at hln; omega
    have hc := hd c (by simp)
    have ec : UInt8.ofNat (48 + (c.toNat - 48)) = c := by
      rw [show 48 + (c.toNat - 48) = c.toNat by omega]; exact UInt8.ofNat_toNat
    rw [decV_snoc]
    by_cases hl : l = []
    · subst hl
      have h0 := hh c [] rfl
      have h1 : decV [] = 0 := rfl
      rw [h1]
      refine ⟨by omega, ?_⟩
      unfold decB
      rw [Lib.decDigits, dif_pos (by omega), Nat.mul_zero, Nat.zero_add, ec]; rfl
    · obtain ⟨hp, he⟩ := ih l hln2 (fun d h => hd d (List.mem_append_left _ h)) (fun d r e => hh d (r ++ [c]) (by rw [e]; rfl)) hl
      refine ⟨by omega, ?_⟩
      have e1 : (10 * decV l + (c.toNat - 48)) / 10 = decV l := by omega
      have e2 : (10 * decV l + (c.toNat - 48)) % 10 = c.toNat - 48 := by omega
      unfold decB at he ⊢
      rw [Lib.decDigits, dif_neg (by omega), e1, e2, he, ec]
theorem nameF_numF {s : List UInt8} (h : numF s ≠ 0) : s = nameF (numF s) := by
  unfold numF at h ⊢
  split at h
  · rename_i hc
    obtain ⟨h1, h2, h3, h4, h5⟩ := hc
    rw [if_pos ⟨h1, h2, h3, h4, h5⟩]
    have hne : s.drop 3 ≠ [] := by intro e; have := congrArg List.length e; simp at this; omega
    have hd : ∀ c ∈ s.drop 3, 48 ≤ c.toNat ∧ c.toNat ≤ 57 := fun c hc => by
      have := List.all_eq_true.1 h5 c hc
      simpa using this
    have hh : ∀ c r, s.drop 3 = c :: r → c.toNat ≠ 48 := fun c r e => by
      have e2 : gb s 3 = c.toNat := by
        have h9 : (s.drop 3)[0]? = some c := by rw [e]; rfl
        rw [List.getElem?_drop] at h9
        simp only [gb, List.getD_eq_getElem?_getD]
        rw [show s[3]? = some c from h9]; rfl
      omega
    have he := (decV_dec2 _ _ rfl hd hh hne).2
    unfold nameF
    rw [he, ← h1, List.take_append_drop]
  · exact absurd rfl h
def segFs (lo : Nat) : List (List Rc) → List Fil
  | [] => []
  | rs :: ss => ⟨nameF lo, recsB rs, (recsB rs).length⟩ :: segFs (lo + 1) ss
def segPs (lo : Nat) : List (List Rc) → List Pt
  | [] => []
  | rs :: ss => ⟨lo, rs, (recsB rs).length, false⟩ :: segPs (lo + 1) ss
/-- The disk holds the log l: its files are these, from number lo on. -/
structure LogOn (D : Dsk) (l : Lg) (lo : Nat) (segs : List (List Rc)) : Prop where
  off : D.off = false
  ar : D.ar = none
  srt : Srt D.fs
  perm : D.fs.Perm (segFs lo segs)
  ok : ∀ rs ∈ segs, ∀ r ∈ rs, RcOk r
  base : ∃ r rs ss, segs = (r :: rs) :: ss ∧ r.k = 3 ∧ (∀ s ∈ ss, ∀ r ∈ s, r.k ≠ 3)
  c : doAll Cn.zero segs.flatten true = some l.c
  lo0 : 0 < lo
  file : l.file + 1 = lo + segs.length
  few : l.file ≤ 100000
  long : segs.getLast?.map (fun rs => (recsB rs).length) = some l.long
  bad : l.bad = 0
theorem recP_all {rs : List Rc} (h : ∀ r ∈ rs, RcOk r) : ∀ p ∈ rs.map recP, p.length ≤ 1048576 := by
  intro p hp
  obtain ⟨r, hr, rfl⟩ := List.mem_map.1 hp
  exact recP_len (h r hr)
theorem ptF_seg {lo : Nat} {rs : List Rc} (h : ∀ r ∈ rs, RcOk r) (h0 : 0 < lo) (h1 : lo < 1000000000) : ptF ⟨nameF lo, recsB rs, (recsB rs).length⟩ = some ⟨lo, rs, (recsB rs).length, false⟩ := by
  unfold ptF
  simp only
  rw [recsB_eq h, scan_all (recP_all h), rowsR_recP h, numF_nameF h0 h1]
  rfl
theorem partsF_perm {F G : List Fil} (h : F.Perm G) {ps : List Pt} (hp : partsF F = some ps) : ∃ qs, partsF G = some qs ∧ ps.Perm qs := by
  induction h generalizing ps with
  | nil => exact ⟨ps, hp, List.Perm.refl _⟩
  | cons f h ih =>
    rw [partsF] at hp ⊢
    split at hp
    · rename_i h0; rw [if_pos h0]; exact ih hp
    · rename_i h0
      rw [if_neg h0]
      obtain ⟨p, e1, h2⟩ := Option.bind_eq_some_iff.1 hp
      obtain ⟨r, e2, rfl⟩ := Option.map_eq_some_iff.1 h2
      obtain ⟨qs, e3, hpe⟩ := ih e2
      exact ⟨p :: qs, by rw [e1, e3]; rfl, hpe.cons p⟩
  | swap f g l =>
    rw [partsF, partsF] at hp
    rw [partsF, partsF]
    by_cases hf : numF f.name = 0 <;> by_cases hg : numF g.name = 0
    · simp only [hf, hg, if_true] at hp ⊢; exact ⟨ps, hp, List.Perm.refl _⟩
    · simp only [hf, hg, if_true, if_false] at hp ⊢; exact ⟨ps, hp, List.Perm.refl _⟩
    · simp only [hf, hg, if_true, if_false] at hp ⊢; exact ⟨ps, hp, List.Perm.refl _⟩
    · simp only [hf, hg, if_false] at hp ⊢
      obtain ⟨p, e1, h2⟩ := Option.bind_eq_some_iff.1 hp
      obtain ⟨r, e2, rfl⟩ := Option.map_eq_some_iff.1 h2
      obtain ⟨q, e3, h4⟩ := Option.bind_eq_some_iff.1 e2
      obtain ⟨s, e4, rfl⟩ := Option.map_eq_some_iff.1 h4
      refine ⟨q :: p :: s, ?_, List.Perm.swap _ _ _⟩
      rw [e3, e1, e4]; rfl
  | trans h1 h2 ih1 ih2 =>
    obtain ⟨qs, e1, p1⟩ := ih1 hp
    obtain ⟨rs, e2, p2⟩ := ih2 e1
    exact ⟨rs, e2, p1.trans p2⟩
theorem partsF_segs : ∀ (segs : List (List Rc)) {lo : Nat}, (∀ rs ∈ segs, ∀ r ∈ rs, RcOk r) → 0 < lo → lo + segs.length ≤ 1000000000 → partsF (segFs lo segs) = some (segPs lo segs)
  | [], _, _, _, _ => rfl
  | rs :: ss, lo, h, h0, h1 => by
    rw [List.length_cons] at h1
    have hn := numF_nameF h0 (show lo < 1000000000 by omega)
    show partsF (_ :: segFs (lo + 1) ss) = _
    rw [partsF, if_neg (by simp only; omega), ptF_seg (h rs List.mem_cons_self) h0 (by omega), partsF_segs ss (fun q hq => h q (List.mem_cons_of_mem _ hq)) (by omega) (by omega)]
    rfl
theorem segPs_lt : ∀ (segs : List (List Rc)) (lo : Nat), (∀ p ∈ segPs lo segs, lo ≤ p.k) ∧ (segPs lo segs).Pairwise (fun a b => a.k < b.k)
  | [], lo => ⟨fun p hp => (by cases hp), List.Pairwise.nil⟩
  | rs :: ss, lo => by
    obtain ⟨h1, h2⟩ := segPs_lt ss (lo + 1)
    refine ⟨fun p hp => ?_, List.pairwise_cons.2 ⟨fun p hp => ?_, h2⟩⟩
    · rcases List.mem_cons.1 hp with rfl | hp
      · exact Nat.le_refl _
      · have := h1 p hp; omega
    · have := h1 p hp
      show lo < p.k
      omega
theorem sortP_sorted (l : List Pt) : (sortP l).Pairwise (fun a b => a.k ≤ b.k) := by
  have := List.pairwise_mergeSort (le := fun a b : Pt => decide (a.k ≤ b.k)) (fun a b c h1 h2 => by simp at *; omega) (fun a b => by simp; omega) l
  exact this.imp fun h => by simpa using h
theorem keys_inj {l : List Pt} (h : l.Pairwise (fun a b => a.k < b.k)) {a b : Pt} (ha : a ∈ l) (hb : b ∈ l) (e : a.k = b.k) : a = b := by
  induction l with
  | nil => cases ha
  | cons x l ih =>
    have h2 := List.pairwise_cons.1 h
    rcases List.mem_cons.1 ha with ha2 | ha2 <;> rcases List.mem_cons.1 hb with hb2 | hb2
    · rw [ha2, hb2]
    · have := h2.1 b hb2; rw [ha2] at e; omega
    · have := h2.1 a ha2; rw [hb2] at e; omega
    · exact ih h2.2 ha2 hb2
theorem sort_segs {segs : List (List Rc)} {lo : Nat} {ps : List Pt} (hp : ps.Perm (segPs lo segs)) (hs : ps.Pairwise (fun a b => a.k ≤ b.k)) : ps = segPs lo segs := by
  obtain ⟨_, h2⟩ := segPs_lt segs lo
  refine List.Perm.eq_of_pairwise (le := fun a b : Pt => a.k ≤ b.k) (fun a b ha hb h3 h4 => ?_) hs (h2.imp fun h => Nat.le_of_lt h) hp
  exact keys_inj h2 (hp.mem_iff.1 ha) hb (by omega)
theorem parts_on {D : Dsk} {l : Lg} {lo : Nat} {segs : List (List Rc)} (h : LogOn D l lo segs) : ∃ ps, partsF D.fs = some ps ∧ sortP ps = segPs lo segs := by
  have hf := h.file
  have hw := h.few
  obtain ⟨ps, e, hp⟩ := partsF_perm h.perm.symm (partsF_segs segs h.ok h.lo0 (by omega))
  exact ⟨ps, e, sort_segs ((List.mergeSort_perm _ _).trans hp.symm) (sortP_sorted ps)⟩
theorem segPs_rs : ∀ (segs : List (List Rc)) (lo : Nat), (segPs lo segs).map (·.rs) = segs
  | [], _ => rfl
  | rs :: ss, lo => by show rs :: _ = _; rw [segPs_rs ss (lo + 1)]
end Go.Proofs.YtajapgjemefoiaaGreatDoor
/- Layer 19 (wal): number: which file of the log a name is: what it answers. -/
set_option maxRecDepth 100000
set_option maxHeartbeats 4000000
set_option linter.unusedVariables false
set_option linter.unusedSimpArgs false
namespace Go.Proofs.YtajapgjemefoiaaGreatDoor
open Go.RowKit Go.SW
def cutS (s : List UInt8) : List UInt8 := if s.take 3 = [108, 111, 103] then s.drop 3 else s
theorem prefix3 (s : List UInt8) : Lib.hasPrefix s [108, 111, 103] = decide (s.take 3 = [108, 111, 103]) := by
  unfold Lib.hasPrefix
  rw [Bool.eq_iff_iff, List.isPrefixOf_iff_prefix, decide_eq_true_eq, List.prefix_iff_eq_take]
  exact ⟨fun h => h.symm, fun h => h.symm⟩
theorem CutLog_ct (s : List UInt8) (w : World) :
    Fun Tryz.prog 101 [.string (bs s), .string (bs [108, 111, 103])] w fun v w' => v = .tuple #[.string (bs (cutS s)), .bool (decide (s.take 3 = [108, 111, 103]))] ∧ Fresh w w' [] := by
  refine Calls.mono (Tryz.strings_CutPrefix (bs s) (bs [108, 111, 103]) w) ?_
  rintro e w' ⟨rfl, rfl⟩
  refine ⟨_, rfl, ?_, (Hp.start _).fresh⟩
  have e1 : (bs s).data.toList = s := by simp [bs]
  have e2 : (bs [108, 111, 103]).data.toList = [108, 111, 103] := by simp [bs]
  rw [e1, e2, prefix3]
  have e3 : Lib.trimPrefix s [108, 111, 103] = cutS s := by
    unfold Lib.trimPrefix cutS
    rw [prefix3]
    by_cases h : s.take 3 = [108, 111, 103] <;> simp [h]
  rw [e3]; rfl
def dgB (c : UInt8) : Bool := decide (48 ≤ c.toNat) && decide (c.toNat ≤ 57)
theorem decV_lt : ∀ (l : List UInt8), l.all dgB = true → decV l < 10 ^ l.length := by
  intro l
  obtain ⟨n, hn⟩ : ∃ n, l.length = n := ⟨_, rfl⟩
  induction n generalizing l with
  | zero => intro _; rw [List.length_eq_zero_iff.1 hn]; decide
  | succ n ih =>
    intro h
    rcases List.eq_nil_or_concat l with rfl | ⟨l, c, rfl⟩
    · simp at hn
    rw [List.concat_eq_append] at *
    rw [List.all_append] at h
    simp only [Bool.and_eq_true, List.all_cons, List.all_nil, Bool.and_true, dgB, decide_eq_true_eq] at h
    have hl : l.length = n := by simp at hn; omega
    have := ih l hl h.1
    rw [decV_snoc, hn, Nat.pow_succ, ← hl]
    omega
theorem numF_is {s : List UInt8} (h1 : s.take 3 = [108, 111, 103]) (h2 : cutS s ≠ []) (h3 : gb (cutS s) 0 ≠ 48) (h4 : (cutS s).length ≤ 9) (h5 : (cutS s).all dgB = true) : numF s = decV (cutS s) := by
  have e : cutS s = s.drop 3 := if_pos h1
  rw [e] at h2 h3 h4 h5 ⊢
  have hl : 3 < s.length := by
    refine Nat.lt_of_not_le fun h => h2 (List.drop_eq_nil_of_le h)
  unfold numF
  rw [List.length_drop] at h4
  have h7 : gb s 3 ≠ 48 := fun h6 => h3 (by simpa [gb, List.getD_eq_getElem?_getD, List.getElem?_drop] using h6)
  exact if_pos ⟨h1, hl, h7, by omega, h5⟩
theorem numF_not {s : List UInt8} (h : s.take 3 ≠ [108, 111, 103] ∨ cutS s = [] ∨ gb (cutS s) 0 = 48 ∨ 9 < (cutS s).length ∨ (cutS s).all dgB ≠ true) : numF s = 0 := by
  unfold numF
  refine if_neg ?_
  rintro ⟨h1, h2, h3, h4, h5⟩
  have e : cutS s = s.drop 3 := if_pos h1
  rw [e] at h
  rcases h with h | h | h | h | h
  · exact h h1
  · have := congrArg List.length h; simp at this; omega
  · refine h3 ?_
    simpa [gb, List.getD_eq_getElem?_getD, List.getElem?_drop] using h
  · rw [List.length_drop] at h; omega
  · exact h h5
theorem all_bad {l : List UInt8} {i : Nat} (hi : i < l.length) (h : gb l i < 48 ∨ 57 < gb l i) : l.all dgB ≠ true := by
  intro h2
  have h3 := List.all_eq_true.1 h2 l[i] (List.getElem_mem hi)
  simp only [dgB, Bool.and_eq_true, decide_eq_true_eq] at h3
  have e : gb l i = l[i].toNat := by simp [gb, List.getD_eq_getElem?_getD, List.getElem?_eq_getElem hi]
  omega
theorem dig_next {l : List UInt8} {i : Nat} (hi : i < l.length) (h : (l.take i).all dgB = true) (h1 : 48 ≤ gb l i) (h2 : gb l i ≤ 57) : (l.take (i + 1)).all dgB = true ∧ decV (l.take (i + 1)) = 10 * decV (l.take i) + (gb l i - 48) := by
  have e : gb l i = l[i].toNat := by simp [gb, List.getD_eq_getElem?_getD, List.getElem?_eq_getElem hi]
  rw [List.take_succ_eq_append_getElem hi, List.all_append, h, decV_snoc, e]
  refine ⟨?_, rfl⟩
  simp only [List.all_cons, List.all_nil, Bool.and_true, Bool.true_and, dgB, Bool.and_eq_true, decide_eq_true_eq]
  omega

theorem Number_ct (s : List UInt8) (w : World) (hs : s.length ≤ 140737488355328) :
    Fun Tryz.prog 65 [.string (bs s)] w fun v w' => v = .int .i64 ((numF s : Nat) : Int) ∧ Fresh w w' [] := by
 refine fun_of_sw Tryz.func65 rfl 53 rfl rfl ?_
 have hH := Hp.start w
 refine sw_sr <| Go0 1 <| Dn <| sw_sr <| Go1 1 8 (.string (bs s)) <| gl_st (Sc rfl rfl (CutLog_ct s _) ?_)
 rintro _ w1 ⟨rfl, hF2⟩
 replace hH := hH.call hF2
 refine Go2 5 3 (.string (bs (cutS s))) 4 (.bool (decide (s.take 3 = [108, 111, 103]))) <| Dn <| sw_seq <| sw_sr <| Go1 3 14 (.bool (!(decide (s.take 3 = [108, 111, 103])))) <| Gi 14 rfl (fun hg1 => ?_) (fun hg1 => ?_)
 have hw := hg1
 refine Go1 13 27 (.bool true) <| Dn <| It <| sw_sr <| Go1 1 2 (.int .i64 0) <| Dn <| Rt1 rfl rfl ?_
 exact ⟨by rw [numF_not (.inl hw)]; rfl, hH.fresh⟩
 have hw1 := hg1
 refine Go1 1 15 (.string (bs (cutS s))) <| Gq rfl (rd_seql (by kernel_rfl) rfl rfl) <| Go1 2 18 (.bool ((cutS s) == [])) <| Gi 18 rfl (fun hg3 => ?_) (fun hg3 => ?_)
 have hw := hg3
 refine Go1 9 27 (.bool true) <| Dn <| It <| sw_sr <| Go1 1 2 (.int .i64 0) <| Dn <| Rt1 rfl rfl ?_
 exact ⟨by rw [numF_not (.inr (.inl hw))]; rfl, hH.fresh⟩
 have hw2 := hg3
 have hr0 : 0 < (cutS s).length := List.length_pos_iff.2 hw2
 refine Go1 1 19 (.string (bs (cutS s))) <| Gq rfl (rd_sidx (by kernel_rfl) rfl 0 rfl (by omega)) <| Go1 3 23 (.bool (((gb (cutS s) 0 : Nat) : Int) == (48 : Int))) <| Gi 23 rfl (fun hg5 => ?_) (fun hg5 => ?_)
 have hw := hg5
 refine Go1 4 27 (.bool true) <| Dn <| It <| sw_sr <| Go1 1 2 (.int .i64 0) <| Dn <| Rt1 rfl rfl ?_
 exact ⟨by rw [numF_not (.inr (.inr (.inl (by omega))))]; rfl, hH.fresh⟩
 have hw3 := hg5
 refine Gc0 2 25 (.int .i64 (((bs (cutS s)).size : Nat) : Int)) (Ni ((cutS s).length)) (by rw [bs_size]) <| Go1 2 27 (.bool (decide ((((cutS s).length : Nat) : Int) > (9 : Int)))) <| Dn <| If rfl (fun hc7 => ?_) (fun hc7 => ?_)
 refine sw_sr <| Go1 1 2 (.int .i64 0) <| Dn <| Rt1 rfl rfl ?_
 exact ⟨by rw [numF_not (.inr (.inr (.inr (.inl (by omega)))))]; rfl, hH.fresh⟩
 refine Sk <| sw_sr <| Go1 1 5 (.int .i64 0) <| Dn <| sw_seq <| sw_sr <| Gc0 2 29 (.int .i64 (((bs (cutS s)).size : Nat) : Int)) (Ni ((cutS s).length)) (by rw [bs_size]) <| Go1 1 30 (.int .i64 0) <| Dn <| sw_block <| Lp (γ := Nat) hH (fun i => [(3, .string (bs (cutS s))), (5, Ni (decV ((cutS s).take i))), (29, Ni ((cutS s).length)), (30, Ni i)]) (fun i w_ H_ => (i ≤ (cutS s).length) ∧ (((cutS s).take i).all dgB = true) ∧ H_ []) (fun i => (cutS s).length - i) (0) ?_ ?_
 · exact ⟨Nat.zero_le _, by simp, hH⟩
 clear hH
 rintro i w3 ⟨hi, hall, hH⟩
 have hlt := decV_lt _ hall
 rw [List.length_take, Nat.min_eq_left hi] at hlt
 have hpw : 10 ^ i ≤ 10 ^ 9 := Nat.pow_le_pow_right (by omega) (by omega)
 have hgb := gb_lt (cutS s) i
 refine swk [(3, .string (bs (cutS s))), (5, Ni (decV ((cutS s).take i))), (29, Ni ((cutS s).length)), (30, Ni i)] <| sw_sr <| Go1 1 31 (.bool (decide ((i : Int) < (((cutS s).length : Nat) : Int)))) <| Dn <| sw_seq <| If rfl (fun hc8 => ?_) (fun hc8 => ?_)
 refine Sk <| sw_seq <| sw_block <| sw_sr <| Go1 2 6 (Ni i) <| Dn <| sw_seq <| sw_sr <| Go2 2 33 (.string (bs (cutS s))) 34 (Ni i) <| Gq rfl (rd_sidx (by kernel_rfl) rfl i rfl (by omega)) <| Go1 2 37 (.bool (decide (((gb (cutS s) i : Nat) : Int) < (48 : Int)))) <| Gi 37 rfl (fun hg9 => ?_) (fun hg9 => ?_)
 refine Go1 5 42 (.bool true) <| Dn <| It <| sw_sr <| Go1 1 2 (.int .i64 0) <| Dn <| Rt1 rfl rfl ?_
 exact ⟨by rw [numF_not (.inr (.inr (.inr (.inr (all_bad (l := cutS s) (i := i) (by omega) (by omega))))))]; rfl, hH.fresh⟩
 refine Go2 2 38 (.string (bs (cutS s))) 39 (Ni i) <| Gq rfl (rd_sidx (by kernel_rfl) rfl i rfl (by omega)) <| Go1 2 42 (.bool (decide (((gb (cutS s) i : Nat) : Int) > (57 : Int)))) <| Dn <| If rfl (fun hc11 => ?_) (fun hc11 => ?_)
 refine sw_sr <| Go1 1 2 (.int .i64 0) <| Dn <| Rt1 rfl rfl ?_
 exact ⟨by rw [numF_not (.inr (.inr (.inr (.inr (all_bad (l := cutS s) (i := i) (by omega) (by omega))))))]; rfl, hH.fresh⟩
 refine Sk ?_
 have hnx := dig_next (l := (cutS s)) (i := i) (by omega) hall (by omega) (by omega)
 refine sw_region <| Gw0 2 44 (10 * ((decV ((cutS s).take i) : Nat) : Int)) ((10 * (decV ((cutS s).take i)) : Nat) : Int) <| Go2 2 45 (.string (bs (cutS s))) 46 (Ni i) <| Gq rfl (rd_sidx (by kernel_rfl) rfl i rfl (by omega)) <| Gc0 1 48 (.int .u8 (IntKind.u8.wrap (((gb (cutS s) i : Nat) : Int) - 48))) (.int .u8 (((gb (cutS s) i) - 48 : Nat) : Int)) (cv_u8 (by omega)) <| Gw0 1 49 (((gb (cutS s) i) - 48 : Nat) : Int) (((gb (cutS s) i) - 48 : Nat) : Int) <| Gc0 1 50 (.int .i64 (IntKind.i64.wrap (((10 * (decV ((cutS s).take i)) : Nat) : Int) + (((gb (cutS s) i) - 48 : Nat) : Int)))) (Ni (decV ((cutS s).take (i + 1)))) (by rw [hnx.2]; exact cv_i64 (by omega)) <| Go1 1 5 (Ni (decV ((cutS s).take (i + 1)))) <| Dd <| bkN <| sw_next <| sw_region <| Gw0 1 51 ((i : Int) + 1) ((i + 1 : Nat) : Int) <| Go1 1 30 (Ni (i + 1)) <| Dd <| rnd_end (g := (i)) (i + 1) (by kernel_rfl) ?_ ?_
 · exact ⟨by omega, hnx.1, hH⟩
 · show (cutS s).length - (i + 1) < (cutS s).length - i; omega
 refine sw_exit <| thX <| thX <| bkH <| sw_next <| sw_sr <| Go1 2 2 (Ni (decV ((cutS s).take i))) <| Dn <| Rt1 rfl rfl ?_
 have hie : i = (cutS s).length := by omega
 subst hie
 rw [List.take_length] at hall ⊢
 exact ⟨by rw [numF_is hw1 hw2 (by omega) (by omega) hall], hH.fresh⟩
end Go.Proofs.YtajapgjemefoiaaGreatDoor
/- Layer 19 (wal): a record in its frame: what it answers. -/
set_option maxRecDepth 100000
set_option maxHeartbeats 1000000
set_option linter.unusedVariables false
set_option linter.unusedSimpArgs false
namespace Go.Proofs.YtajapgjemefoiaaGreatDoor
open Go.RowKit Go.SW
theorem rec_two {k : Nat} (h : k = 2) (a b c : Nat) (d : List UInt8) : recB ⟨k, a, b, c, d⟩ = frameO (numB k ++ numB a ++ numB b ++ numB c ++ blobB d) := by
  unfold recB recP; simp only [h, if_true, List.append_assoc]
theorem rec_one {k : Nat} (h : k ≠ 2) (a b c : Nat) (d : List UInt8) : recB ⟨k, a, b, c, d⟩ = frameO (numB k ++ numB a ++ numB b) := by
  unfold recB recP; simp [h]
theorem blobB_le2 (c : List UInt8) : (blobB c).length ≤ 65545 := by
  have := numB_le c.length
  unfold blobB
  split <;> (try simp only [List.length_append, List.length_nil]) <;> omega

theorem RecFrame_ct (k a b c : Nat) (vd : Value) (d : List UInt8) (w : World) (hd : RB w.cell? vd d) (hk : k < 9223372036854775808) (ha : a < 9223372036854775808) (hb : b < 9223372036854775808) (hc : c < 9223372036854775808) :
    Fun Tryz.prog 51 [.agg #[.int .i64 ((k : Nat) : Int), .int .i64 ((a : Nat) : Int), .int .i64 ((b : Nat) : Int), .int .i64 ((c : Nat) : Int), vd]] w fun v w' => ∃ v1, v = v1 ∧ Fresh w w' [.row v1 5 1 (recB ⟨k, a, b, c, d⟩).length (bv (recB ⟨k, a, b, c, d⟩))] := by
 obtain ⟨Ad, cd, rfl, hd1, hd2⟩ := hd.row.form
 have hn1 := numB_le k
 have hn2 := numB_le a
 have hn3 := numB_le b
 have hn4 := numB_le c
 have hn5 := blobB_le2 d
 have hlA : (numB k ++ numB a).length ≤ 18 := by simp only [List.length_append]; omega
 have hlB : (numB k ++ numB a ++ numB b).length ≤ 27 := by simp only [List.length_append]; omega
 have hlC : (numB k ++ numB a ++ numB b ++ numB c).length ≤ 36 := by simp only [List.length_append]; omega
 refine fun_of_sw Tryz.func51 rfl 61 rfl rfl ?_
 have hH := Hp.start w
 refine sw_sr <| gl_st (Bx [Ni k, Ni a, Ni b, Ni c, .slice Ad d.length cd] rfl hH ?_)
 clear hH; intro b1 w2 hH
 refine Go0 1 <| Dn <| sw_sr <| Go1 1 3 (.slice none 0 0) ?_
 replace hH := hH.nilRow 5 1
 refine Dn <| sw_sr <| Go1 1 13 (Pp b1 0) <| Gq rfl (Lk 0 hH rfl rfl rfl) <| Go1 1 15 (Pp b1 1) <| Gq rfl (Lk 0 hH rfl rfl rfl) <| Go1 1 17 (Pp b1 2) <| Gq rfl (Lk 0 hH rfl rfl rfl) <| gl_st (st_buildS (e := 3) (zv := .int .i64 0) (m := 1) (bytes := 8) rfl rfl rfl (by kernel_rfl) (by kernel_rfl) rfl (cs := [Ni k, Ni a, Ni b]) (by kernel_rfl) rfl hH ?_)
 clear hH; intro b3 w4 hH
 refine Go1 1 4 (.slice (some ⟨b3, 0, none⟩) 3 3) <| Dn <| sw_seq <| sw_sr <| Go1 1 20 (Pp b1 0) <| Gq rfl (Lk 0 hH rfl rfl rfl) <| Go1 1 22 (.bool ((k : Int) == (2 : Int))) <| Dn <| If rfl (fun hc1 => ?_) (fun hc1 => ?_)
 have hk2 : k = 2 := by omega
 refine sw_region <| Go2 2 23 (.slice (some ⟨b3, 0, none⟩) 3 3) 24 (Pp b1 3) <| Gq rfl (Lk 0 hH rfl rfl rfl) <| gl_st (st_buildS (e := 3) (zv := .int .i64 0) (m := 1) (bytes := 8) rfl rfl rfl (by kernel_rfl) (by kernel_rfl) rfl (cs := [Ni c]) (by kernel_rfl) rfl hH ?_)
 clear hH; intro b5 w6 hH
 replace hH := hH.n4
 refine gl_st (Apd (e := 3) (.int .i64 0) 1 8 2 rfl hH rfl rfl rfl (hH.row_reads 3 rfl) (by simp [Value.oneCell']) (by unfold maxLen; omega) (by omega) ?_)
 clear hH; intro v7 w8 hH
 replace hH := hH.row_eq 2 (l' := 4) (xs' := [Ni k, Ni a, Ni b, Ni c]) rfl (rfl) (rfl)
 obtain ⟨A9, c10, rfl, hl11, hm12⟩ := hH.row_form 2 rfl
 replace hH := hH.n4
 refine Go1 1 4 (.slice A9 4 c10) <| Dd <| sw_next <| sw_seq <| sw_sr <| Go1 1 28 (.slice A9 4 c10) <| Gq rfl (Ln (e := 3) rfl) <| Go1 1 30 (.int .i64 0) <| Dn <| sw_block <| sw_unroll <| sw_sr <| Go1 1 31 (.bool true) <| Dn <| sw_seq <| It <| sw_skip <| sw_next <| sw_seq <| sw_block <| sw_sr ?_
 obtain ⟨b14, hb13, hi15⟩ := hH.row_idx 2 rfl 0 (by omega)
 refine Gq rfl (Ix (e := 3) 1 rfl rfl hi15) <| Gq rfl (Lo 2 hH rfl rfl hb13 rfl) <| Go1 1 6 (Ni k) <| Dn <| sw_sr <| Go1 1 35 (Ni k) <| gl_st (Sc rfl rfl (Num_ct k _ (by omega)) ?_)
 rintro _ w18 ⟨v16, rfl, hF19⟩
 replace hH := hH.call hF19
 obtain ⟨A20, c21, rfl, hl22, hm23⟩ := hH.row_form 4 rfl
 replace hH := hH.n5
 refine glo 5 [(1, Pp b1 0), (3, .slice none 0 0), (7, .slice A20 ((numB k).length) c21), (28, .slice A9 4 c10), (29, .int .i64 4), (30, .int .i64 0)] <| Dn <| sw_region <| Go2 2 39 (.slice none 0 0) 40 (.slice A20 ((numB k).length) c21) <| gl_st (Apd (e := 5) (.int .u8 0) 1 1 1 rfl hH rfl rfl rfl (hH.row_reads 4 rfl) (bv_one _) (by unfold maxLen; omega) (by omega) ?_)
 clear hH; intro v24 w25 hH
 replace hH := hH.row_eq 1 (l' := (numB k).length) (xs' := bv (numB k)) rfl (Nat.zero_add _) (List.nil_append _)
 obtain ⟨A26, c27, rfl, hl28, hm29⟩ := hH.row_form 1 rfl
 replace hH := hH.n5
 refine Go1 1 3 (.slice A26 ((numB k).length) c27) <| Dd <| bkN <| sw_next <| sw_region <| Gw0 1 42 (0 + 1) 1 <| Go1 1 30 (.int .i64 1) <| Dd <| sw_again <| swk [(1, Pp b1 0), (3, .slice A26 ((numB k).length) c27), (28, .slice A9 4 c10), (29, .int .i64 4), (30, .int .i64 1)] <| sw_sr <| Go1 1 31 (.bool true) <| Dn <| sw_seq <| It <| sw_skip <| sw_next <| sw_seq <| sw_block <| sw_sr ?_
 obtain ⟨b31, hb30, hi32⟩ := hH.row_idx 2 rfl 1 (by omega)
 refine Gq rfl (Ix (e := 3) 1 rfl rfl hi32) <| Gq rfl (Lo 2 hH rfl rfl hb30 rfl) <| Go1 1 6 (Ni a) <| Dn <| sw_sr <| Go1 1 35 (Ni a) <| gl_st (Sc rfl rfl (Num_ct a _ (by omega)) ?_)
 rintro _ w35 ⟨v33, rfl, hF36⟩
 replace hH := hH.call hF36
 obtain ⟨A37, c38, rfl, hl39, hm40⟩ := hH.row_form 5 rfl
 replace hH := hH.n6
 refine Go1 5 7 (.slice A37 ((numB a).length) c38) <| Dn <| sw_region <| Go2 2 39 (.slice A26 ((numB k).length) c27) 40 (.slice A37 ((numB a).length) c38) <| gl_st (Apd (e := 5) (.int .u8 0) 1 1 1 rfl hH rfl rfl rfl (hH.row_reads 5 rfl) (bv_one _) (by unfold maxLen; omega) (by omega) ?_)
 clear hH; intro v41 w42 hH
 replace hH := hH.row_eq 1 (l' := ((numB k) ++ (numB a)).length) (xs' := bv ((numB k) ++ (numB a))) rfl (by simp only [List.length_append, List.length_cons, List.length_nil] <;> omega) ((bv_append _ _).symm)
 obtain ⟨A43, c44, rfl, hl45, hm46⟩ := hH.row_form 1 rfl
 replace hH := hH.n6
 refine Go1 1 3 (.slice A43 (((numB k) ++ (numB a)).length) c44) <| Dd <| bkN <| sw_next <| sw_region <| Gw0 1 42 (1 + 1) 2 <| Go1 1 30 (.int .i64 2) <| Dd <| sw_again <| swk [(1, Pp b1 0), (3, .slice A43 (((numB k) ++ (numB a)).length) c44), (28, .slice A9 4 c10), (29, .int .i64 4), (30, .int .i64 2)] <| sw_sr <| Go1 1 31 (.bool true) <| Dn <| sw_seq <| It <| sw_skip <| sw_next <| sw_seq <| sw_block <| sw_sr ?_
 obtain ⟨b48, hb47, hi49⟩ := hH.row_idx 2 rfl 2 (by omega)
 refine Gq rfl (Ix (e := 3) 1 rfl rfl hi49) <| Gq rfl (Lo 2 hH rfl rfl hb47 rfl) <| Go1 1 6 (Ni b) <| Dn <| sw_sr <| Go1 1 35 (Ni b) <| gl_st (Sc rfl rfl (Num_ct b _ (by omega)) ?_)
 rintro _ w52 ⟨v50, rfl, hF53⟩
 replace hH := hH.call hF53
 obtain ⟨A54, c55, rfl, hl56, hm57⟩ := hH.row_form 6 rfl
 replace hH := hH.n7
 refine Go1 5 7 (.slice A54 ((numB b).length) c55) <| Dn <| sw_region <| Go2 2 39 (.slice A43 (((numB k) ++ (numB a)).length) c44) 40 (.slice A54 ((numB b).length) c55) <| gl_st (Apd (e := 5) (.int .u8 0) 1 1 1 rfl hH rfl rfl rfl (hH.row_reads 6 rfl) (bv_one _) (by unfold maxLen; omega) (by omega) ?_)
 clear hH; intro v58 w59 hH
 replace hH := hH.row_eq 1 (l' := (((numB k) ++ (numB a)) ++ (numB b)).length) (xs' := bv (((numB k) ++ (numB a)) ++ (numB b))) rfl (by simp only [List.length_append, List.length_cons, List.length_nil] <;> omega) ((bv_append _ _).symm)
 obtain ⟨A60, c61, rfl, hl62, hm63⟩ := hH.row_form 1 rfl
 replace hH := hH.n7
 refine Go1 1 3 (.slice A60 ((((numB k) ++ (numB a)) ++ (numB b)).length) c61) <| Dd <| bkN <| sw_next <| sw_region <| Gw0 1 42 (2 + 1) 3 <| Go1 1 30 (.int .i64 3) <| Dd <| sw_again <| swk [(1, Pp b1 0), (3, .slice A60 ((((numB k) ++ (numB a)) ++ (numB b)).length) c61), (28, .slice A9 4 c10), (29, .int .i64 4), (30, .int .i64 3)] <| sw_sr <| Go1 1 31 (.bool true) <| Dn <| sw_seq <| It <| sw_skip <| sw_next <| sw_seq <| sw_block <| sw_sr ?_
 obtain ⟨b65, hb64, hi66⟩ := hH.row_idx 2 rfl 3 (by omega)
 refine Gq rfl (Ix (e := 3) 1 rfl rfl hi66) <| Gq rfl (Lo 2 hH rfl rfl hb64 rfl) <| Go1 1 6 (Ni c) <| Dn <| sw_sr <| Go1 1 35 (Ni c) <| gl_st (Sc rfl rfl (Num_ct c _ (by omega)) ?_)
 rintro _ w69 ⟨v67, rfl, hF70⟩
 replace hH := hH.call hF70
 obtain ⟨A71, c72, rfl, hl73, hm74⟩ := hH.row_form 7 rfl
 replace hH := hH.n8
 refine Go1 5 7 (.slice A71 ((numB c).length) c72) <| Dn <| sw_region <| Go2 2 39 (.slice A60 ((((numB k) ++ (numB a)) ++ (numB b)).length) c61) 40 (.slice A71 ((numB c).length) c72) <| gl_st (Apd (e := 5) (.int .u8 0) 1 1 1 rfl hH rfl rfl rfl (hH.row_reads 7 rfl) (bv_one _) (by unfold maxLen; omega) (by omega) ?_)
 clear hH; intro v75 w76 hH
 replace hH := hH.row_eq 1 (l' := ((((numB k) ++ (numB a)) ++ (numB b)) ++ (numB c)).length) (xs' := bv ((((numB k) ++ (numB a)) ++ (numB b)) ++ (numB c))) rfl (by simp only [List.length_append, List.length_cons, List.length_nil] <;> omega) ((bv_append _ _).symm)
 obtain ⟨A77, c78, rfl, hl79, hm80⟩ := hH.row_form 1 rfl
 replace hH := hH.n8
 refine Go1 1 3 (.slice A77 (((((numB k) ++ (numB a)) ++ (numB b)) ++ (numB c)).length) c78) <| Dd <| bkN <| sw_next <| sw_region <| Gw0 1 42 (3 + 1) 4 <| Go1 1 30 (.int .i64 4) <| Dd <| sw_again <| swk [(1, Pp b1 0), (3, .slice A77 (((((numB k) ++ (numB a)) ++ (numB b)) ++ (numB c)).length) c78), (28, .slice A9 4 c10), (29, .int .i64 4), (30, .int .i64 4)] <| sw_sr <| Go1 1 31 (.bool false) <| Dn <| sw_seq <| Iz <| sw_exit <| thX <| thX <| bkH <| sw_next <| sw_seq <| sw_sr <| Go1 1 43 (Pp b1 0) <| Gq rfl (Lk 0 hH rfl rfl rfl) <| Go1 1 45 (.bool ((k : Int) == (2 : Int))) <| Dn <| If rfl (fun hc7 => ?_) (fun hc7 => absurd hc7 (by omega))
 clear hc7
 refine sw_sr <| Go1 1 47 (Pp b1 4) <| Gq rfl (Lk 0 hH rfl rfl rfl) <| gl_st (Sc rfl rfl (Blob_ct _ _ _ (hd.mono hH.zin)) ?_)
 rintro _ w83 ⟨v81, rfl, hF84⟩
 replace hH := hH.call hF84
 obtain ⟨A85, c86, rfl, hl87, hm88⟩ := hH.row_form 8 rfl
 replace hH := hH.n9
 refine Go1 5 9 (.slice A85 ((blobB d).length) c86) <| Dn <| sw_region <| Go2 2 52 (.slice A77 (((((numB k) ++ (numB a)) ++ (numB b)) ++ (numB c)).length) c78) 53 (.slice A85 ((blobB d).length) c86) <| gl_st (Apd (e := 5) (.int .u8 0) 1 1 1 rfl hH rfl rfl rfl (hH.row_reads 8 rfl) (bv_one _) (by unfold maxLen; omega) (by omega) ?_)
 clear hH; intro v89 w90 hH
 replace hH := hH.row_eq 1 (l' := (((((numB k) ++ (numB a)) ++ (numB b)) ++ (numB c)) ++ (blobB d)).length) (xs' := bv (((((numB k) ++ (numB a)) ++ (numB b)) ++ (numB c)) ++ (blobB d))) rfl (by simp only [List.length_append, List.length_cons, List.length_nil] <;> omega) ((bv_append _ _).symm)
 obtain ⟨A91, c92, rfl, hl93, hm94⟩ := hH.row_form 1 rfl
 replace hH := hH.n9
 refine Go1 1 3 (.slice A91 ((((((numB k) ++ (numB a)) ++ (numB b)) ++ (numB c)) ++ (blobB d)).length) c92) <| Dd <| sw_next <| sw_sr <| Go1 1 56 (.slice A91 ((((((numB k) ++ (numB a)) ++ (numB b)) ++ (numB c)) ++ (blobB d)).length) c92) <| gl_st (Sc rfl rfl (Frame_ct _ _ _ (rb_own hH 1 rfl)) ?_)
 rintro _ w97 ⟨v95, rfl, hF98⟩
 replace hH := hH.call hF98
 obtain ⟨A99, c100, rfl, hl101, hm102⟩ := hH.row_form 9 rfl
 replace hH := hH.n10
 refine Go1 5 11 (.slice A99 ((frameO (((((numB k) ++ (numB a)) ++ (numB b)) ++ (numB c)) ++ (blobB d))).length) c100) <| Dn <| sw_sr <| Go1 2 2 (.slice A99 ((frameO (((((numB k) ++ (numB a)) ++ (numB b)) ++ (numB c)) ++ (blobB d))).length) c100) <| Dn <| Rt1 rfl rfl ?_
 have hr := rec_two hk2 a b c d
 exact ⟨_, rfl, ((hH.sb (slc (slc (slc (slc (slc (slc (slc (slc (slc (slk sln))))))))))).cast (by rw [hr])).fresh⟩
 have hk2 : k ≠ 2 := by omega
 refine Sk <| sw_seq <| sw_sr <| Go1 1 28 (.slice (some ⟨b3, 0, none⟩) 3 3) <| Gq rfl (Ln (e := 3) rfl) <| Go1 1 30 (.int .i64 0) <| Dn <| sw_block <| sw_unroll <| sw_sr <| Go1 1 31 (.bool true) <| Dn <| sw_seq <| It <| sw_skip <| sw_next <| sw_seq <| sw_block <| sw_sr ?_
 obtain ⟨b104, hb103, hi105⟩ := hH.row_idx 2 rfl 0 (by omega)
 refine Gq rfl (Ix (e := 3) 1 rfl rfl hi105) <| Gq rfl (Lo 2 hH rfl rfl hb103 rfl) <| Go1 1 6 (Ni k) <| Dn <| sw_sr <| Go1 1 35 (Ni k) <| gl_st (Sc rfl rfl (Num_ct k _ (by omega)) ?_)
 rintro _ w108 ⟨v106, rfl, hF109⟩
 replace hH := hH.call hF109
 obtain ⟨A110, c111, rfl, hl112, hm113⟩ := hH.row_form 3 rfl
 replace hH := hH.n4
 refine Go1 5 7 (.slice A110 ((numB k).length) c111) <| Dn <| sw_region <| Go2 2 39 (.slice none 0 0) 40 (.slice A110 ((numB k).length) c111) <| gl_st (Apd (e := 5) (.int .u8 0) 1 1 1 rfl hH rfl rfl rfl (hH.row_reads 3 rfl) (bv_one _) (by unfold maxLen; omega) (by omega) ?_)
 clear hH; intro v114 w115 hH
 replace hH := hH.row_eq 1 (l' := (numB k).length) (xs' := bv (numB k)) rfl (Nat.zero_add _) (List.nil_append _)
 obtain ⟨A116, c117, rfl, hl118, hm119⟩ := hH.row_form 1 rfl
 replace hH := hH.n4
 refine Go1 1 3 (.slice A116 ((numB k).length) c117) <| Dd <| bkN <| sw_next <| sw_region <| Gw0 1 42 (0 + 1) 1 <| glo 1 [(1, Pp b1 0), (3, .slice A116 ((numB k).length) c117), (28, .slice (some ⟨b3, 0, none⟩) 3 3), (29, .int .i64 3), (30, .int .i64 1)] <| Dd <| sw_again <| swk [(1, Pp b1 0), (3, .slice A116 ((numB k).length) c117), (28, .slice (some ⟨b3, 0, none⟩) 3 3), (29, .int .i64 3), (30, .int .i64 1)] <| sw_sr <| Go1 1 31 (.bool true) <| Dn <| sw_seq <| It <| sw_skip <| sw_next <| sw_seq <| sw_block <| sw_sr ?_
 obtain ⟨b121, hb120, hi122⟩ := hH.row_idx 2 rfl 1 (by omega)
 refine Gq rfl (Ix (e := 3) 1 rfl rfl hi122) <| Gq rfl (Lo 2 hH rfl rfl hb120 rfl) <| Go1 1 6 (Ni a) <| Dn <| sw_sr <| Go1 1 35 (Ni a) <| gl_st (Sc rfl rfl (Num_ct a _ (by omega)) ?_)
 rintro _ w125 ⟨v123, rfl, hF126⟩
 replace hH := hH.call hF126
 obtain ⟨A127, c128, rfl, hl129, hm130⟩ := hH.row_form 4 rfl
 replace hH := hH.n5
 refine Go1 5 7 (.slice A127 ((numB a).length) c128) <| Dn <| sw_region <| Go2 2 39 (.slice A116 ((numB k).length) c117) 40 (.slice A127 ((numB a).length) c128) <| gl_st (Apd (e := 5) (.int .u8 0) 1 1 1 rfl hH rfl rfl rfl (hH.row_reads 4 rfl) (bv_one _) (by unfold maxLen; omega) (by omega) ?_)
 clear hH; intro v131 w132 hH
 replace hH := hH.row_eq 1 (l' := ((numB k) ++ (numB a)).length) (xs' := bv ((numB k) ++ (numB a))) rfl (by simp only [List.length_append, List.length_cons, List.length_nil] <;> omega) ((bv_append _ _).symm)
 obtain ⟨A133, c134, rfl, hl135, hm136⟩ := hH.row_form 1 rfl
 replace hH := hH.n5
 refine Go1 1 3 (.slice A133 (((numB k) ++ (numB a)).length) c134) <| Dd <| bkN <| sw_next <| sw_region <| Gw0 1 42 (1 + 1) 2 <| Go1 1 30 (.int .i64 2) <| Dd <| sw_again <| swk [(1, Pp b1 0), (3, .slice A133 (((numB k) ++ (numB a)).length) c134), (28, .slice (some ⟨b3, 0, none⟩) 3 3), (29, .int .i64 3), (30, .int .i64 2)] <| sw_sr <| Go1 1 31 (.bool true) <| Dn <| sw_seq <| It <| sw_skip <| sw_next <| sw_seq <| sw_block <| sw_sr ?_
 obtain ⟨b138, hb137, hi139⟩ := hH.row_idx 2 rfl 2 (by omega)
 refine Gq rfl (Ix (e := 3) 1 rfl rfl hi139) <| Gq rfl (Lo 2 hH rfl rfl hb137 rfl) <| Go1 1 6 (Ni b) <| Dn <| sw_sr <| Go1 1 35 (Ni b) <| gl_st (Sc rfl rfl (Num_ct b _ (by omega)) ?_)
 rintro _ w142 ⟨v140, rfl, hF143⟩
 replace hH := hH.call hF143
 obtain ⟨A144, c145, rfl, hl146, hm147⟩ := hH.row_form 5 rfl
 replace hH := hH.n6
 refine Go1 5 7 (.slice A144 ((numB b).length) c145) <| Dn <| sw_region <| Go2 2 39 (.slice A133 (((numB k) ++ (numB a)).length) c134) 40 (.slice A144 ((numB b).length) c145) <| gl_st (Apd (e := 5) (.int .u8 0) 1 1 1 rfl hH rfl rfl rfl (hH.row_reads 5 rfl) (bv_one _) (by unfold maxLen; omega) (by omega) ?_)
 clear hH; intro v148 w149 hH
 replace hH := hH.row_eq 1 (l' := (((numB k) ++ (numB a)) ++ (numB b)).length) (xs' := bv (((numB k) ++ (numB a)) ++ (numB b))) rfl (by simp only [List.length_append, List.length_cons, List.length_nil] <;> omega) ((bv_append _ _).symm)
 obtain ⟨A150, c151, rfl, hl152, hm153⟩ := hH.row_form 1 rfl
 replace hH := hH.n6
 refine Go1 1 3 (.slice A150 ((((numB k) ++ (numB a)) ++ (numB b)).length) c151) <| Dd <| bkN <| sw_next <| sw_region <| Gw0 1 42 (2 + 1) 3 <| Go1 1 30 (.int .i64 3) <| Dd <| sw_again <| swk [(1, Pp b1 0), (3, .slice A150 ((((numB k) ++ (numB a)) ++ (numB b)).length) c151), (28, .slice (some ⟨b3, 0, none⟩) 3 3), (29, .int .i64 3), (30, .int .i64 3)] <| sw_sr <| Go1 1 31 (.bool false) <| Dn <| sw_seq <| Iz <| sw_exit <| thX <| thX <| bkH <| sw_next <| sw_seq <| sw_sr <| Go1 1 43 (Pp b1 0) <| Gq rfl (Lk 0 hH rfl rfl rfl) <| Go1 1 45 (.bool ((k : Int) == (2 : Int))) <| Dn <| If rfl (fun hc12 => absurd hc12 (by omega)) (fun hc12 => ?_)
 clear hc12
 refine Sk <| sw_sr <| Go1 1 56 (.slice A150 ((((numB k) ++ (numB a)) ++ (numB b)).length) c151) <| gl_st (Sc rfl rfl (Frame_ct _ _ _ (rb_own hH 1 rfl)) ?_)
 rintro _ w156 ⟨v154, rfl, hF157⟩
 replace hH := hH.call hF157
 obtain ⟨A158, c159, rfl, hl160, hm161⟩ := hH.row_form 6 rfl
 replace hH := hH.n7
 refine Go1 5 11 (.slice A158 ((frameO (((numB k) ++ (numB a)) ++ (numB b))).length) c159) <| Dn <| sw_sr <| Go1 2 2 (.slice A158 ((frameO (((numB k) ++ (numB a)) ++ (numB b))).length) c159) <| Dn <| Rt1 rfl rfl ?_
 have hr := rec_one hk2 a b c d
 exact ⟨_, rfl, ((hH.sb (slc (slc (slc (slc (slc (slc (slk sln)))))))).cast (by rw [hr])).fresh⟩
end Go.Proofs.YtajapgjemefoiaaGreatDoor
/- Layer 19 (wal): read's closure: a number is taken: what it answers. -/
set_option maxRecDepth 100000
set_option maxHeartbeats 1000000
set_option linter.unusedVariables false
set_option linter.unusedSimpArgs false
namespace Go.Proofs.YtajapgjemefoiaaGreatDoor
open Go.RowKit Go.SW
def NumOf (vp vp' : Value) (p : List UInt8) : Prop := ∀ c : Zone, RB c vp p → RB c vp' (if (takeNum p).2.2 = 0 then p.drop (takeNum p).2.1 else p)
theorem rb_tail_of {c : Zone} {A : Option Addr} {cap n : Nat} {v' : Value} {p : List UInt8} (h : RB c (.slice A p.length cap) p) (hc : CutOf (.slice A p.length cap) 1 n p.length cap v') (hn : n ≤ p.length) : RB c v' (p.drop n) := by
  obtain ⟨A2, l2, c2, e, h1, h2, h3, rfl⟩ := hc
  cases e
  exact RB.tail (row_cut h.row (by decide) n p.length cap h1 (by omega) h2 h3)

theorem ReadNum_ct (g rb j : Nat) (vp : Value) (p : List UInt8) (cs : List Value) (w : World) (hM : Mine w [.blk g 37 [vp], .blk rb 113 cs]) (hp : RB (off w (blksOf [.blk g 37 [vp], .blk rb 113 cs])) vp p) (hj : j < cs.length) :
    Fun Tryz.prog 103 [.pointer (some ⟨rb, j, none⟩), .pointer (some ⟨g, 0, none⟩)] w fun v w' => ∃ vp', v = errV (takeNum p).2.2 ∧ NumOf vp vp' p ∧ Turn w w' [.blk g 37 [vp], .blk rb 113 cs] [.blk g 37 [vp'], .blk rb 113 (if (takeNum p).2.2 = 0 then cs.set j (Ni (takeNum p).1) else cs)] := by
 obtain ⟨Ap, cp, rfl, hp1, hp2⟩ := hp.row.form
 have hu := takeNum_used p
 refine fun_of_sw Tryz.func103 rfl 22 rfl rfl ?_
 have hH := Hp.start_mine hM
 refine sw_sr <| Go0 1 <| Dn <| sw_sr <| Gq rfl (Lk 0 hH rfl rfl rfl) <| gl_st (Sc rfl rfl (TakeNum_ct _ _ _ (hp.mono hH.zin)) ?_)
 rintro _ w1 ⟨rfl, hF2⟩
 replace hH := hH.call hF2
 refine Go3 7 4 (Ni ((takeNum p).1)) 5 (Ni ((takeNum p).2.1)) 6 (errV ((takeNum p).2.2)) <| Dn <| sw_seq <| sw_sr <| Go1 1 13 (errV ((takeNum p).2.2)) <| Gq rfl (rd_err_eq (by kernel_rfl) rfl) <| Dn <| If rfl (fun hc1 => ?_) (fun hc1 => ?_)
 have hz : (takeNum p).2.2 = 0 := by omega
 refine Dr hH sln ?_
 clear hH; intro w3 hH hS9
 refine Gp3 4 [0,1,3,5] 16 (Ni ((takeNum p).1)) 18 (Ni ((takeNum p).2.1)) 20 (Pp rb j) hS9 <| gd_st2 2 6 (by kernel_rfl) ?_ ?_
 refine st_q rfl rfl rfl (Lk 0 hH rfl rfl rfl) <| Nl hS9 fun hS9 => gdk [(1, Pp g 0), (6, errV ((takeNum p).2.2)), (16, Ni ((takeNum p).1)), (17, .slice Ap p.length cp), (18, Ni ((takeNum p).2.1)), (20, Pp rb j)] ?_
 obtain ⟨A9, hc9, hv9⟩ := hp.row.cut (by decide) (takeNum p).2.1 p.length (by omega) (by omega)
 refine Dq 4 rfl (fun _ hS => (rd_cut (e := 5) (m := 1) (by kernel_rfl) (by kernel_rfl) rfl (.inr ⟨_, _, rfl, rfl⟩) (.inl ⟨rfl, rfl⟩) hc9)) hS9 <| gdk [(1, Pp g 0), (6, errV ((takeNum p).2.2)), (16, Ni ((takeNum p).1)), (19, .slice A9 (p.length - (takeNum p).2.1) (cp - (takeNum p).2.1)), (20, Pp rb j)] <| gds 6 (st_storeK (v := Ni ((takeNum p).1)) 1 rfl rfl rfl hH rfl rfl rfl (by kernel_rfl) rfl hj ?_)
 clear hH; intro w4 hH
 replace hH := hH.blk_eq 1 (cs' := cs.set j (Ni (takeNum p).1)) rfl (rfl)
 refine Nl (hH.sb sln) fun hS9 => gds 7 (Ks 0 (.slice A9 (p.length - (takeNum p).2.1) (cp - (takeNum p).2.1)) rfl hH rfl rfl ?_)
 clear hH; intro w5 hH
 refine Nl (hH.sb sln) fun hS9 => gdn [(6, errV ((takeNum p).2.2))] <| sw_next <| sw_sr <| Go1 2 3 (errV ((takeNum p).2.2)) <| Dn <| Rt1 rfl rfl ?_
 replace hH := (hH.sb (slk (slk sln))).n2
 exact ⟨_, rfl, fun c h => by rw [if_pos hz]; exact rb_tail_of h hc9 hu.1, by rw [if_pos hz]; exact hH.turned⟩
 refine st_storeK (v := Ni ((takeNum p).1)) 1 rfl rfl rfl hH rfl rfl rfl (by kernel_rfl) rfl hj ?_
 clear hH; intro w6 hH
 replace hH := hH.blk_eq 1 (cs' := cs.set j (Ni (takeNum p).1)) rfl (rfl)
 refine Nl (hH.sb sln) fun hS9 => gdk [(1, Pp g 0), (6, errV ((takeNum p).2.2)), (18, Ni ((takeNum p).2.1))] <| gds 2 (st_q rfl rfl rfl (Lk 0 hH rfl rfl rfl) ?_)
 refine Nl hS9 fun hS9 => ?_
 obtain ⟨A9, hc9, hv9⟩ := hp.row.cut (by decide) (takeNum p).2.1 p.length (by omega) (by omega)
 refine Dq 4 rfl (fun _ hS => (rd_cut (e := 5) (m := 1) (by kernel_rfl) (by kernel_rfl) rfl (.inr ⟨_, _, rfl, rfl⟩) (.inl ⟨rfl, rfl⟩) hc9)) hS9 <| gdk [(1, Pp g 0), (6, errV ((takeNum p).2.2)), (19, .slice A9 (p.length - (takeNum p).2.1) (cp - (takeNum p).2.1))] <| gds 7 (Ks 0 (.slice A9 (p.length - (takeNum p).2.1) (cp - (takeNum p).2.1)) rfl hH rfl rfl ?_)
 clear hH; intro w7 hH
 refine Nl (hH.sb sln) fun hS9 => gdn [(6, errV ((takeNum p).2.2))] <| sw_next <| sw_sr <| Go1 2 3 (errV ((takeNum p).2.2)) <| Dn <| Rt1 rfl rfl ?_
 replace hH := (hH.sb (slk (slk sln))).n2
 exact ⟨_, rfl, fun c h => by rw [if_pos hz]; exact rb_tail_of h hc9 hu.1, by rw [if_pos hz]; exact hH.turned⟩
 have hz : ¬ (takeNum p).2.2 = 0 := by omega
 refine Sk <| sw_sr <| Go1 2 3 (errV ((takeNum p).2.2)) <| Dn <| Rt1 rfl rfl ?_
 replace hH := (hH.sb (slk (slk sln))).n2
 exact ⟨_, rfl, fun c h => by rw [if_neg hz]; exact h, by rw [if_neg hz]; exact hH.turned⟩
end Go.Proofs.YtajapgjemefoiaaGreatDoor
/- Layer 19 (wal): a content's end, a log's state and base: what they answer. -/
set_option maxRecDepth 100000
set_option maxHeartbeats 1000000
set_option linter.unusedVariables false
set_option linter.unusedSimpArgs false
namespace Go.Proofs.YtajapgjemefoiaaGreatDoor
open Go.RowKit Go.SW

theorem End0_ct (g ix n cap : Nat) (A : Option Addr) (w : World) (h2 : w.cell? ⟨g, 2, none⟩ = some (.int .i64 ((ix : Nat) : Int))) (h4 : w.cell? ⟨g, 4, none⟩ = some (.slice A n cap)) (hx : ix + n < 9223372036854775808) :
    Fun Tryz.prog 80 [.pointer (some ⟨g, 0, none⟩)] w fun v w' => v = .int .i64 (((ix + n : Nat)) : Int) ∧ Fresh w w' [] := by
 refine fun_of_sw Tryz.func80 rfl 13 rfl rfl ?_
 have hH := Hp.start w
 refine sw_sr <| Go0 1 <| Dn <| sw_seq <| Dr hH sln ?_
 clear hH; intro w1 hH hS9
 refine Gp1 3 [0,1,2] 5 (.pointer (some ⟨g, 2, none⟩)) hS9 <| Dq 3 rfl (fun _ hS => (rd_load (by kernel_rfl) rfl (hS.zin _ _ h2))) hS9 <| Gp1 3 [4,5,6] 9 (.pointer (some ⟨g, 4, none⟩)) hS9 <| Dq 7 rfl (fun _ hS => (rd_load (by kernel_rfl) rfl (hS.zin _ _ h4))) hS9 <| Dq 8 rfl (fun _ hS => (Ln (e := 64) rfl)) hS9 <| Dw0 1 [9] 12 ((ix : Int) + (n : Int)) ((ix + n : Nat) : Int) hS9 <| Gp1 1 [10] 2 (Ni (ix + n)) hS9 <| gdn [(2, Ni (ix + n))] <| sw_next <| Rt1 rfl rfl ?_
 exact ⟨rfl, hH.fresh⟩
theorem End1_ct (g ix n cap : Nat) (A : Option Addr) (w : World) (h2 : w.cell? ⟨g, 3, none⟩ = some (.int .i64 ((ix : Nat) : Int))) (h4 : w.cell? ⟨g, 5, none⟩ = some (.slice A n cap)) (hx : ix + n < 9223372036854775808) :
    Fun Tryz.prog 80 [.pointer (some ⟨g, 1, none⟩)] w fun v w' => v = .int .i64 (((ix + n : Nat)) : Int) ∧ Fresh w w' [] := by
 refine fun_of_sw Tryz.func80 rfl 13 rfl rfl ?_
 have hH := Hp.start w
 refine sw_sr <| Go0 1 <| Dn <| sw_seq <| Dr hH sln ?_
 clear hH; intro w1 hH hS9
 refine Gp1 3 [0,1,2] 5 (.pointer (some ⟨g, 3, none⟩)) hS9 <| Dq 3 rfl (fun _ hS => (rd_load (by kernel_rfl) rfl (hS.zin _ _ h2))) hS9 <| Gp1 3 [4,5,6] 9 (.pointer (some ⟨g, 5, none⟩)) hS9 <| Dq 7 rfl (fun _ hS => (rd_load (by kernel_rfl) rfl (hS.zin _ _ h4))) hS9 <| Dq 8 rfl (fun _ hS => (Ln (e := 64) rfl)) hS9 <| Dw0 1 [9] 12 ((ix : Int) + (n : Int)) ((ix + n : Nat) : Int) hS9 <| Gp1 1 [10] 2 (Ni (ix + n)) hS9 <| gdn [(2, Ni (ix + n))] <| sw_next <| Rt1 rfl rfl ?_
 exact ⟨rfl, hH.fresh⟩
theorem State_ct (g x y : Nat) (w : World) (h1 : w.cell? ⟨g, 1, none⟩ = some (.int .i64 ((x : Nat) : Int))) (h2 : w.cell? ⟨g, 2, none⟩ = some (.int .i64 ((y : Nat) : Int))) :
    Fun Tryz.prog 19 [.pointer (some ⟨g, 0, none⟩)] w fun v w' => v = .tuple #[.int .i64 ((x : Nat) : Int), .int .i64 ((y : Nat) : Int)] ∧ Fresh w w' [] := by
 refine fun_of_sw Tryz.func19 rfl 14 rfl rfl ?_
 have hH := Hp.start w
 refine sw_sr <| Go0 2 <| Dn <| sw_seq <| Dr hH sln ?_
 clear hH; intro w1 hH hS9
 refine Gp1 4 [0,1,2,3] 7 (.pointer (some ⟨g, 1, none⟩)) hS9 <| Dq 4 rfl (fun _ hS => (rd_load (by kernel_rfl) rfl (hS.zin _ _ h1))) hS9 <| Gp1 4 [5,6,7,8] 12 (.pointer (some ⟨g, 2, none⟩)) hS9 <| Dq 9 rfl (fun _ hS => (rd_load (by kernel_rfl) rfl (hS.zin _ _ h2))) hS9 <| Gp2 2 [10,11] 2 (Ni x) 3 (Ni y) hS9 <| gdn [(2, Ni x), (3, Ni y)] <| sw_next <| Rt2 rfl rfl rfl ?_
 exact ⟨rfl, hH.fresh⟩
theorem Base_ct (g x y : Nat) (w : World) (h1 : w.cell? ⟨g, 3, none⟩ = some (.int .i64 ((x : Nat) : Int))) (h2 : w.cell? ⟨g, 4, none⟩ = some (.int .i64 ((y : Nat) : Int))) :
    Fun Tryz.prog 36 [.pointer (some ⟨g, 0, none⟩)] w fun v w' => v = .tuple #[.int .i64 ((x : Nat) : Int), .int .i64 ((y : Nat) : Int)] ∧ Fresh w w' [] := by
 refine fun_of_sw Tryz.func36 rfl 14 rfl rfl ?_
 have hH := Hp.start w
 refine sw_sr <| Go0 2 <| Dn <| sw_seq <| Dr hH sln ?_
 clear hH; intro w1 hH hS9
 refine Gp1 4 [0,1,2,3] 7 (.pointer (some ⟨g, 3, none⟩)) hS9 <| Dq 4 rfl (fun _ hS => (rd_load (by kernel_rfl) rfl (hS.zin _ _ h1))) hS9 <| Gp1 4 [5,6,7,8] 12 (.pointer (some ⟨g, 4, none⟩)) hS9 <| Dq 9 rfl (fun _ hS => (rd_load (by kernel_rfl) rfl (hS.zin _ _ h2))) hS9 <| Gp2 2 [10,11] 2 (Ni x) 3 (Ni y) hS9 <| gdn [(2, Ni x), (3, Ni y)] <| sw_next <| Rt2 rfl rfl rfl ?_
 exact ⟨rfl, hH.fresh⟩
end Go.Proofs.YtajapgjemefoiaaGreatDoor
/- Layer 19 (wal): rows of entries; slices.Clone of one: what it answers. -/
set_option maxRecDepth 100000
set_option maxHeartbeats 1000000
set_option linter.unusedVariables false
set_option linter.unusedSimpArgs false
namespace Go.Proofs.YtajapgjemefoiaaGreatDoor
open Go.RowKit Go.SW
abbrev EQ := List (En × Value)
def enC (q : En × Value) : List Value := [.int .i64 ((q.1.ix : Nat) : Int), .int .i64 ((q.1.tm : Nat) : Int), .int .i64 ((q.1.kd : Nat) : Int), q.2]
theorem enC_len (q : En × Value) : (enC q).length = 4 := rfl
def EnV (es : EQ) : Prop := ∀ q ∈ es, ∃ A l c, q.2 = .slice A l c
theorem en_one {es : EQ} (h : EnV es) : ∀ u ∈ rowC enC es, u.oneCell' = true := by
  intro u hu
  obtain ⟨c, hc, hu2⟩ := List.mem_flatten.1 hu
  obtain ⟨q, hq, rfl⟩ := List.mem_map.1 hc
  obtain ⟨A, l, cp, e⟩ := h q hq
  simp only [enC, e, List.mem_cons, List.not_mem_nil, or_false] at hu2
  rcases hu2 with rfl | rfl | rfl | rfl <;> rfl

theorem EClone_ct (vx : Value) (es : EQ) (w : World) (hR : Row w.cell? vx 4 es.length (rowC enC es)) (hV : EnV es) (hl : es.length ≤ 1048576) :
    Fun Tryz.prog 57 [vx] w fun v w' => ∃ v1, v = v1 ∧ Fresh w w' [.row v1 64 4 es.length (rowC enC es)] := by
 obtain ⟨Ax, cx, rfl, hx1, hx2⟩ := hR.form
 refine fun_of_sw Tryz.func57 rfl 8 rfl rfl ?_
 have hH := Hp.start w
 refine sw_sr <| Go0 1 <| Dn <| sw_seq <| sw_sr <| Go1 1 3 (.slice Ax es.length cx) <| Gq rfl (rd_snil_eql (e := 64) (by kernel_rfl) rfl rfl) <| Dn <| If rfl (fun hc1 => ?_) (fun hc1 => ?_)
 refine sw_sr <| Go1 1 2 (.slice none 0 0) <| Dn <| Rt1 rfl rfl ?_
 have hz : Ax = none := by simpa using hc1
 subst hz
 have hn := hR.1
 have he : es = [] := by
   obtain ⟨_, A9, c9, e9, _, _, h9⟩ := hR
   cases e9
   cases es with
   | nil => rfl
   | cons q r => obtain ⟨ad, h8, _⟩ := h9 0 _ rfl; cases h8
 subst he
 exact ⟨_, rfl, (hH.nilRow 64 4).fresh⟩
 refine Sk <| sw_sr <| gl_st (st_buildS0 (e := 64) (m := 4) rfl rfl rfl (by kernel_rfl) (by kernel_rfl) hH ?_)
 clear hH; intro b1 w2 hH
 refine Go1 1 6 (.slice Ax es.length cx) <| gl_st (Apd (e := 64) (.agg #[.int .i64 0, .int .i64 0, .int .i64 0, .slice none 0 0]) 4 48 0 rfl hH rfl rfl rfl (hR.mono hH.zin) (en_one hV) (by unfold maxLen; omega) (by omega) ?_)
 clear hH; intro v3 w4 hH
 replace hH := hH.row_eq 0 (l' := es.length) (xs' := rowC enC es) rfl (Nat.zero_add _) (List.nil_append _)
 obtain ⟨A5, c6, rfl, hl7, hm8⟩ := hH.row_form 0 rfl
 refine Go1 1 2 (.slice A5 es.length c6) <| Dn <| Rt1 rfl rfl ?_
 exact ⟨_, rfl, (hH.sb (slk sln)).fresh⟩
end Go.Proofs.YtajapgjemefoiaaGreatDoor
/- Layer 19 (wal): an entry is put behind the others: what it answers. -/
set_option maxRecDepth 100000
set_option maxHeartbeats 1000000
set_option linter.unusedVariables false
set_option linter.unusedSimpArgs false
namespace Go.Proofs.YtajapgjemefoiaaGreatDoor
open Go.RowKit Go.SW
theorem en_take {c : Zone} {v : Value} {es : EQ} {j : Nat} (hj : j ≤ es.length) (h : Row c v 4 (j - 0) (((rowC enC es).drop (0 * 4)).take ((j - 0) * 4))) : Row c v 4 (es.take j).length (rowC enC (es.take j)) := by
  have e1 : (es.take j).length = j := by rw [List.length_take]; omega
  rw [e1, ← rowC_take enC_len es j]
  simpa using h
theorem enV_take {es : EQ} (h : EnV es) (j : Nat) : EnV (es.take j) := fun q hq => h q (List.mem_of_mem_take hq)

theorem Put0_ct (g c0 ix tm kd : Nat) (te vo ah : Int) (ve vd : Value) (es : EQ) (d : List UInt8) (w : World) (hM : Mine w [.blk g 94 [.int .i64 te, .int .i64 vo, .int .i64 ((c0 : Nat) : Int), .int .i64 ah, ve]]) (hE : Row (off w (blksOf [.blk g 94 [.int .i64 te, .int .i64 vo, .int .i64 ((c0 : Nat) : Int), .int .i64 ah, ve]])) ve 4 es.length (rowC enC es)) (hV : EnV es) (hd : RB (off w (blksOf [.blk g 94 [.int .i64 te, .int .i64 vo, .int .i64 ((c0 : Nat) : Int), .int .i64 ah, ve]])) vd d) (hl : es.length ≤ 1000000) (hx : ix < 9223372036854775808) (hcx : c0 + es.length < 9223372036854775808) (hdl : d.length ≤ 1048576) :
    Fun Tryz.prog 48 [.pointer (some ⟨g, 0, none⟩), .agg #[.int .i64 ((ix : Nat) : Int), .int .i64 ((tm : Nat) : Int), .int .i64 ((kd : Nat) : Int), vd]] w fun v w' => (v = .bool false ∧ (ix ≤ c0 ∨ c0 + es.length < ix - 1) ∧ Turn w w' [.blk g 94 [.int .i64 te, .int .i64 vo, .int .i64 ((c0 : Nat) : Int), .int .i64 ah, ve]] [.blk g 94 [.int .i64 te, .int .i64 vo, .int .i64 ((c0 : Nat) : Int), .int .i64 ah, ve]]) ∨ (∃ v1 vd2, v = .bool true ∧ ¬ (ix ≤ c0 ∨ c0 + es.length < ix - 1) ∧ Turn w w' [.blk g 94 [.int .i64 te, .int .i64 vo, .int .i64 ((c0 : Nat) : Int), .int .i64 ah, ve]] [.blk g 94 [.int .i64 te, .int .i64 vo, .int .i64 ((c0 : Nat) : Int), .int .i64 ah, v1], .row v1 64 4 (es.take (ix - c0 - 1) ++ [((⟨ix, tm, kd, d⟩ : En), vd2)]).length (rowC enC (es.take (ix - c0 - 1) ++ [((⟨ix, tm, kd, d⟩ : En), vd2)])), .row vd2 5 1 d.length (bv d)]) := by
 obtain ⟨Ae, ce, rfl, he1, he2⟩ := hE.form
 obtain ⟨Ad, cd, rfl, hd1, hd2⟩ := hd.row.form
 refine fun_of_sw Tryz.func48 rfl 44 rfl rfl ?_
 have hH := Hp.start_mine hM
 refine sw_sr <| gl_st (Bx [Ni ix, Ni tm, Ni kd, .slice Ad d.length cd] rfl hH ?_)
 clear hH; intro b1 w2 hH
 refine Go0 1 <| Dn <| sw_seq <| sw_seq <| Dr hH (slk (slk sln)) ?_
 clear hH; intro w3 hH hS9
 refine Gp1 1 [0] 5 (Pp b1 0) hS9 <| Dq 1 rfl (fun _ hS => (Lk 1 hS rfl rfl rfl)) hS9 <| Gp1 3 [2,3,4] 9 (Pp g 2) hS9 <| Dq 5 rfl (fun _ hS => (Lk 0 hS rfl rfl rfl)) hS9 <| Gp1 2 [6,7] 12 (.bool (decide ((ix : Int) ≤ (c0 : Int)))) hS9 <| Di 12 rfl (fun hg1 => ?_) (fun hg1 => ?_)
 refine Gp1 7 [8,9,10,11,12,13,14] 19 (.bool true) hS9 <| gdn [(0, Pp g 0), (3, Pp b1 0), (19, .bool true)] <| sw_next <| It <| sw_sr <| Go1 1 4 (.bool false) <| Dn <| Rt1 rfl rfl ?_
 replace hH := (hH.sb (slk sln)).n1
 exact .inl ⟨rfl, by omega, hH.turned⟩
 refine Gp1 1 [8] 13 (Pp b1 0) hS9 <| Dq 9 rfl (fun _ hS => (Lk 1 hS rfl rfl rfl)) hS9 <| Dw0 1 [10] 15 ((ix : Int) - 1) ((ix - 1 : Nat) : Int) hS9 <| Gp1 1 [11] 16 (Pp g 0) hS9 <| gds 12 (Sc rfl rfl (End0_ct g c0 es.length ce Ae _ (hH.blk_cell 0 rfl rfl) (hH.blk_cell 0 rfl rfl) (by omega)) ?_)
 rintro _ w4 ⟨rfl, hF5⟩
 replace hH := hH.call hF5
 refine Nl (hH.sb (slk (slk sln))) fun hS9 => Gp1 2 [13,14] 19 (.bool (decide (((ix - 1 : Nat) : Int) > ((c0 + es.length : Nat) : Int)))) hS9 <| gdn [(0, Pp g 0), (3, Pp b1 0), (19, .bool (decide (((ix - 1 : Nat) : Int) > ((c0 + es.length : Nat) : Int))))] <| sw_next <| If rfl (fun hc3 => ?_) (fun hc3 => ?_)
 refine sw_sr <| Go1 1 4 (.bool false) <| Dn <| Rt1 rfl rfl ?_
 replace hH := (hH.sb (slk sln)).n1
 exact .inl ⟨rfl, by omega, hH.turned⟩
 refine Sk <| sw_sr <| Go1 1 20 (Pp b1 3) <| Gq rfl (Lk 1 hH rfl rfl rfl) <| gl_st (Sc rfl rfl (SClone_ct _ d _ (hd.mono hH.zin) (by omega)) ?_)
 rintro _ w8 ⟨v6, rfl, hF9⟩
 replace hH := hH.call hF9
 obtain ⟨A10, c11, rfl, hl12, hm13⟩ := hH.row_form 2 rfl
 refine Go1 1 23 (Pp b1 3) <| gl_st (Ks 1 (.slice A10 d.length c11) rfl hH rfl rfl ?_)
 clear hH; intro w14 hH
 refine Dn <| sw_seq <| Dr hH (slc (slk (slk sln))) ?_
 clear hH; intro w15 hH hS9
 refine Gp3 5 [0,1,2,3,5] 24 (Pp g 0) 27 (Pp g 4) 29 (Pp b1 0) hS9 <| Dq 6 rfl (fun _ hS => (Lk 0 hS rfl rfl rfl)) hS9 <| Gp1 3 [7,8,9] 33 (Pp g 2) hS9 <| Dq 15 rfl (fun _ hS => (La 0 [Ni ix, Ni tm, Ni kd, .slice A10 d.length c11] hS rfl rfl)) hS9 <| gd_st3 4 10 16 (by kernel_rfl) ?_ ?_ ?_
 refine st_q rfl rfl rfl (Lk 0 hH rfl rfl rfl) <| Nl hS9 fun hS9 => gdk [(24, Pp g 0), (28, .slice Ae es.length ce), (30, Ni ix), (33, Pp g 2), (39, .agg #[Ni ix, Ni tm, Ni kd, .slice A10 d.length c11])] <| gd_st2 10 16 (by kernel_rfl) ?_ ?_
 refine st_q rfl rfl rfl (Lk 0 hH rfl rfl rfl) <| Nl hS9 fun hS9 => gdk [(24, Pp g 0), (28, .slice Ae es.length ce), (30, Ni ix), (34, Ni c0), (39, .agg #[Ni ix, Ni tm, Ni kd, .slice A10 d.length c11])] <| Dw0 1 [11] 35 ((ix : Int) - (c0 : Int)) ((ix - c0 : Nat) : Int) hS9 <| Dw0 1 [12] 36 (((ix - c0 : Nat) : Int) - 1) (((ix - c0 - 1) : Nat) : Int) hS9 ?_
 obtain ⟨A9, hc9, hv9⟩ := hE.cut (by decide) 0 (ix - c0 - 1) (by omega) (by omega)
 have hR9 := en_take (by omega) hv9
 refine Dq 13 rfl (fun _ hS => (rd_cut (e := 64) (m := 4) (by kernel_rfl) (by kernel_rfl) rfl (.inl ⟨rfl, rfl⟩) (.inr ⟨_, _, rfl, rfl⟩) hc9)) hS9 <| gdk [(24, Pp g 0), (37, .slice A9 ((ix - c0 - 1) - 0) (ce - 0)), (39, .agg #[Ni ix, Ni tm, Ni kd, .slice A10 d.length c11])] <| gd_st2 14 16 (by kernel_rfl) ?_ ?_
 refine Sc rfl rfl (EClone_ct _ (es.take (ix - c0 - 1)) _ (hR9.mono hH.zin) (enV_take hV _) (by rw [List.length_take]; omega)) ?_
 rintro _ w18 ⟨v16, rfl, hF19⟩
 replace hH := hH.call hF19
 obtain ⟨A20, c21, rfl, hl22, hm23⟩ := hH.row_form 3 rfl
 refine Nl (hH.sb (slc (slk (slk sln)))) fun hS9 => gdk [(24, Pp g 0), (38, .slice A20 ((es.take (ix - c0 - 1)).length) c21), (39, .agg #[Ni ix, Ni tm, Ni kd, .slice A10 d.length c11])] <| gds 16 (st_buildS (e := 64) (zv := .agg #[.int .i64 0, .int .i64 0, .int .i64 0, .slice none 0 0]) (m := 4) (bytes := 48) rfl rfl rfl (by kernel_rfl) (by kernel_rfl) rfl (cs := [Ni ix, Ni tm, Ni kd, .slice A10 d.length c11]) (by kernel_rfl) rfl hH ?_)
 clear hH; intro b24 w25 hH
 refine Nl (hH.sb (slc (slk (slk sln)))) fun hS9 => gds 17 (Apd (e := 64) (.agg #[.int .i64 0, .int .i64 0, .int .i64 0, .slice none 0 0]) 4 48 3 rfl hH rfl rfl rfl (hH.row_reads 4 rfl) (by simp [Value.oneCell']) (by simp only [List.length_take]; unfold maxLen; omega) (by simp only [List.length_take]; omega) ?_)
 clear hH; intro v26 w27 hH
 replace hH := hH.row_eq 3 (l' := (es.take (ix - c0 - 1) ++ [((⟨ix, tm, kd, d⟩ : En), (Value.slice A10 d.length c11))]).length) (xs' := rowC enC (es.take (ix - c0 - 1) ++ [((⟨ix, tm, kd, d⟩ : En), (Value.slice A10 d.length c11))])) rfl (by rw [List.length_append]; rfl) (by rw [← rowC_app]; rfl)
 obtain ⟨A28, c29, rfl, hl30, hm31⟩ := hH.row_form 3 rfl
 refine Nl (hH.sb (slc (slk (slk sln)))) fun hS9 => Gp1 2 [18,19] 43 (Pp g 4) hS9 <| gds 20 (Ks 0 (.slice A28 ((es.take (ix - c0 - 1) ++ [((⟨ix, tm, kd, d⟩ : En), (Value.slice A10 d.length c11))]).length) c29) rfl hH rfl rfl ?_)
 clear hH; intro w32 hH
 refine Nl (hH.sb (slc (slk (slk sln)))) fun hS9 => gdn [] <| sw_next <| sw_sr <| Go1 1 4 (.bool true) <| Dn <| Rt1 rfl rfl ?_
 replace hH := hH.fr3.fr4.fr3
 replace hH := (hH.sb (slk (slk (slk sln)))).n3
 exact .inr ⟨_, _, rfl, by omega, hH.turned⟩
 refine st_buildS (e := 64) (zv := .agg #[.int .i64 0, .int .i64 0, .int .i64 0, .slice none 0 0]) (m := 4) (bytes := 48) rfl rfl rfl (by kernel_rfl) (by kernel_rfl) rfl (cs := [Ni ix, Ni tm, Ni kd, .slice A10 d.length c11]) (by kernel_rfl) rfl hH ?_
 clear hH; intro b33 w34 hH
 refine Nl (hH.sb (slc (slk (slk sln)))) fun hS9 => gdk [(24, Pp g 0), (37, .slice A9 ((ix - c0 - 1) - 0) (ce - 0)), (40, .slice (some ⟨b33, 0, none⟩) 1 1)] <| gds 14 (Sc rfl rfl (EClone_ct _ (es.take (ix - c0 - 1)) _ (hR9.mono hH.zin) (enV_take hV _) (by rw [List.length_take]; omega)) ?_)
 rintro _ w37 ⟨v35, rfl, hF38⟩
 replace hH := hH.call hF38
 obtain ⟨A39, c40, rfl, hl41, hm42⟩ := hH.row_form 4 rfl
 refine Nl (hH.sb (slc (slk (slk sln)))) fun hS9 => gds 17 (Apd (e := 64) (.agg #[.int .i64 0, .int .i64 0, .int .i64 0, .slice none 0 0]) 4 48 4 rfl hH rfl rfl rfl (hH.row_reads 3 rfl) (by simp [Value.oneCell']) (by simp only [List.length_take]; unfold maxLen; omega) (by simp only [List.length_take]; omega) ?_)
 clear hH; intro v43 w44 hH
 replace hH := hH.row_eq 4 (l' := (es.take (ix - c0 - 1) ++ [((⟨ix, tm, kd, d⟩ : En), (Value.slice A10 d.length c11))]).length) (xs' := rowC enC (es.take (ix - c0 - 1) ++ [((⟨ix, tm, kd, d⟩ : En), (Value.slice A10 d.length c11))])) rfl (by rw [List.length_append]; rfl) (by rw [← rowC_app]; rfl)
 obtain ⟨A45, c46, rfl, hl47, hm48⟩ := hH.row_form 4 rfl
 refine Nl (hH.sb (slc (slk (slk sln)))) fun hS9 => Gp1 2 [18,19] 43 (Pp g 4) hS9 <| gds 20 (Ks 0 (.slice A45 ((es.take (ix - c0 - 1) ++ [((⟨ix, tm, kd, d⟩ : En), (Value.slice A10 d.length c11))]).length) c46) rfl hH rfl rfl ?_)
 clear hH; intro w49 hH
 refine Nl (hH.sb (slc (slk (slk sln)))) fun hS9 => gdn [] <| sw_next <| sw_sr <| Go1 1 4 (.bool true) <| Dn <| Rt1 rfl rfl ?_
 replace hH := hH.fr3.fr5.fr3
 replace hH := (hH.sb (slk (slk (slk sln)))).n3
 exact .inr ⟨_, _, rfl, by omega, hH.turned⟩
 refine st_buildS (e := 64) (zv := .agg #[.int .i64 0, .int .i64 0, .int .i64 0, .slice none 0 0]) (m := 4) (bytes := 48) rfl rfl rfl (by kernel_rfl) (by kernel_rfl) rfl (cs := [Ni ix, Ni tm, Ni kd, .slice A10 d.length c11]) (by kernel_rfl) rfl hH ?_
 clear hH; intro b50 w51 hH
 refine Nl (hH.sb (slc (slk (slk sln)))) fun hS9 => gdk [(24, Pp g 0), (28, .slice Ae es.length ce), (30, Ni ix), (33, Pp g 2), (40, .slice (some ⟨b50, 0, none⟩) 1 1)] <| gds 10 (st_q rfl rfl rfl (Lk 0 hH rfl rfl rfl) ?_)
 refine Nl hS9 fun hS9 => Dw0 1 [11] 35 ((ix : Int) - (c0 : Int)) ((ix - c0 : Nat) : Int) hS9 <| Dw0 1 [12] 36 (((ix - c0 : Nat) : Int) - 1) (((ix - c0 - 1) : Nat) : Int) hS9 ?_
 obtain ⟨A9, hc9, hv9⟩ := hE.cut (by decide) 0 (ix - c0 - 1) (by omega) (by omega)
 have hR9 := en_take (by omega) hv9
 refine Dq 13 rfl (fun _ hS => (rd_cut (e := 64) (m := 4) (by kernel_rfl) (by kernel_rfl) rfl (.inl ⟨rfl, rfl⟩) (.inr ⟨_, _, rfl, rfl⟩) hc9)) hS9 <| gdk [(24, Pp g 0), (37, .slice A9 ((ix - c0 - 1) - 0) (ce - 0)), (40, .slice (some ⟨b50, 0, none⟩) 1 1)] <| gds 14 (Sc rfl rfl (EClone_ct _ (es.take (ix - c0 - 1)) _ (hR9.mono hH.zin) (enV_take hV _) (by rw [List.length_take]; omega)) ?_)
 rintro _ w54 ⟨v52, rfl, hF55⟩
 replace hH := hH.call hF55
 obtain ⟨A56, c57, rfl, hl58, hm59⟩ := hH.row_form 4 rfl
 refine Nl (hH.sb (slc (slk (slk sln)))) fun hS9 => gds 17 (Apd (e := 64) (.agg #[.int .i64 0, .int .i64 0, .int .i64 0, .slice none 0 0]) 4 48 4 rfl hH rfl rfl rfl (hH.row_reads 3 rfl) (by simp [Value.oneCell']) (by simp only [List.length_take]; unfold maxLen; omega) (by simp only [List.length_take]; omega) ?_)
 clear hH; intro v60 w61 hH
 replace hH := hH.row_eq 4 (l' := (es.take (ix - c0 - 1) ++ [((⟨ix, tm, kd, d⟩ : En), (Value.slice A10 d.length c11))]).length) (xs' := rowC enC (es.take (ix - c0 - 1) ++ [((⟨ix, tm, kd, d⟩ : En), (Value.slice A10 d.length c11))])) rfl (by rw [List.length_append]; rfl) (by rw [← rowC_app]; rfl)
 obtain ⟨A62, c63, rfl, hl64, hm65⟩ := hH.row_form 4 rfl
 refine Nl (hH.sb (slc (slk (slk sln)))) fun hS9 => Gp1 2 [18,19] 43 (Pp g 4) hS9 <| gds 20 (Ks 0 (.slice A62 ((es.take (ix - c0 - 1) ++ [((⟨ix, tm, kd, d⟩ : En), (Value.slice A10 d.length c11))]).length) c63) rfl hH rfl rfl ?_)
 clear hH; intro w66 hH
 refine Nl (hH.sb (slc (slk (slk sln)))) fun hS9 => gdn [] <| sw_next <| sw_sr <| Go1 1 4 (.bool true) <| Dn <| Rt1 rfl rfl ?_
 replace hH := hH.fr3.fr5.fr3
 replace hH := (hH.sb (slk (slk (slk sln)))).n3
 exact .inr ⟨_, _, rfl, by omega, hH.turned⟩
 refine st_q rfl rfl rfl (Lk 0 hH rfl rfl rfl) <| Nl hS9 fun hS9 => gdk [(24, Pp g 0), (27, Pp g 4), (30, Ni ix), (34, Ni c0), (39, .agg #[Ni ix, Ni tm, Ni kd, .slice A10 d.length c11])] <| Dw0 1 [11] 35 ((ix : Int) - (c0 : Int)) ((ix - c0 : Nat) : Int) hS9 <| Dw0 1 [12] 36 (((ix - c0 : Nat) : Int) - 1) (((ix - c0 - 1) : Nat) : Int) hS9 <| gd_st2 4 16 (by kernel_rfl) ?_ ?_
 refine st_q rfl rfl rfl (Lk 0 hH rfl rfl rfl) <| Nl hS9 fun hS9 => gdk [(24, Pp g 0), (28, .slice Ae es.length ce), (36, Ni (ix - c0 - 1)), (39, .agg #[Ni ix, Ni tm, Ni kd, .slice A10 d.length c11])] ?_
 obtain ⟨A9, hc9, hv9⟩ := hE.cut (by decide) 0 (ix - c0 - 1) (by omega) (by omega)
 have hR9 := en_take (by omega) hv9
 refine Dq 13 rfl (fun _ hS => (rd_cut (e := 64) (m := 4) (by kernel_rfl) (by kernel_rfl) rfl (.inl ⟨rfl, rfl⟩) (.inr ⟨_, _, rfl, rfl⟩) hc9)) hS9 <| gdk [(24, Pp g 0), (37, .slice A9 ((ix - c0 - 1) - 0) (ce - 0)), (39, .agg #[Ni ix, Ni tm, Ni kd, .slice A10 d.length c11])] <| gd_st2 14 16 (by kernel_rfl) ?_ ?_
 refine Sc rfl rfl (EClone_ct _ (es.take (ix - c0 - 1)) _ (hR9.mono hH.zin) (enV_take hV _) (by rw [List.length_take]; omega)) ?_
 rintro _ w69 ⟨v67, rfl, hF70⟩
 replace hH := hH.call hF70
 obtain ⟨A71, c72, rfl, hl73, hm74⟩ := hH.row_form 3 rfl
 refine Nl (hH.sb (slc (slk (slk sln)))) fun hS9 => gdk [(24, Pp g 0), (38, .slice A71 ((es.take (ix - c0 - 1)).length) c72), (39, .agg #[Ni ix, Ni tm, Ni kd, .slice A10 d.length c11])] <| gds 16 (st_buildS (e := 64) (zv := .agg #[.int .i64 0, .int .i64 0, .int .i64 0, .slice none 0 0]) (m := 4) (bytes := 48) rfl rfl rfl (by kernel_rfl) (by kernel_rfl) rfl (cs := [Ni ix, Ni tm, Ni kd, .slice A10 d.length c11]) (by kernel_rfl) rfl hH ?_)
 clear hH; intro b75 w76 hH
 refine Nl (hH.sb (slc (slk (slk sln)))) fun hS9 => gds 17 (Apd (e := 64) (.agg #[.int .i64 0, .int .i64 0, .int .i64 0, .slice none 0 0]) 4 48 3 rfl hH rfl rfl rfl (hH.row_reads 4 rfl) (by simp [Value.oneCell']) (by simp only [List.length_take]; unfold maxLen; omega) (by simp only [List.length_take]; omega) ?_)
 clear hH; intro v77 w78 hH
 replace hH := hH.row_eq 3 (l' := (es.take (ix - c0 - 1) ++ [((⟨ix, tm, kd, d⟩ : En), (Value.slice A10 d.length c11))]).length) (xs' := rowC enC (es.take (ix - c0 - 1) ++ [((⟨ix, tm, kd, d⟩ : En), (Value.slice A10 d.length c11))])) rfl (by rw [List.length_append]; rfl) (by rw [← rowC_app]; rfl)
 obtain ⟨A79, c80, rfl, hl81, hm82⟩ := hH.row_form 3 rfl
 refine Nl (hH.sb (slc (slk (slk sln)))) fun hS9 => Gp1 2 [18,19] 43 (Pp g 4) hS9 <| gds 20 (Ks 0 (.slice A79 ((es.take (ix - c0 - 1) ++ [((⟨ix, tm, kd, d⟩ : En), (Value.slice A10 d.length c11))]).length) c80) rfl hH rfl rfl ?_)
 clear hH; intro w83 hH
 refine Nl (hH.sb (slc (slk (slk sln)))) fun hS9 => gdn [] <| sw_next <| sw_sr <| Go1 1 4 (.bool true) <| Dn <| Rt1 rfl rfl ?_
 replace hH := hH.fr3.fr4.fr3
 replace hH := (hH.sb (slk (slk (slk sln)))).n3
 exact .inr ⟨_, _, rfl, by omega, hH.turned⟩
 refine st_buildS (e := 64) (zv := .agg #[.int .i64 0, .int .i64 0, .int .i64 0, .slice none 0 0]) (m := 4) (bytes := 48) rfl rfl rfl (by kernel_rfl) (by kernel_rfl) rfl (cs := [Ni ix, Ni tm, Ni kd, .slice A10 d.length c11]) (by kernel_rfl) rfl hH ?_
 clear hH; intro b84 w85 hH
 refine Nl (hH.sb (slc (slk (slk sln)))) fun hS9 => gdk [(24, Pp g 0), (37, .slice A9 ((ix - c0 - 1) - 0) (ce - 0)), (40, .slice (some ⟨b84, 0, none⟩) 1 1)] <| gds 14 (Sc rfl rfl (EClone_ct _ (es.take (ix - c0 - 1)) _ (hR9.mono hH.zin) (enV_take hV _) (by rw [List.length_take]; omega)) ?_)
 rintro _ w88 ⟨v86, rfl, hF89⟩
 replace hH := hH.call hF89
 obtain ⟨A90, c91, rfl, hl92, hm93⟩ := hH.row_form 4 rfl
 refine Nl (hH.sb (slc (slk (slk sln)))) fun hS9 => gds 17 (Apd (e := 64) (.agg #[.int .i64 0, .int .i64 0, .int .i64 0, .slice none 0 0]) 4 48 4 rfl hH rfl rfl rfl (hH.row_reads 3 rfl) (by simp [Value.oneCell']) (by simp only [List.length_take]; unfold maxLen; omega) (by simp only [List.length_take]; omega) ?_)
 clear hH; intro v94 w95 hH
 replace hH := hH.row_eq 4 (l' := (es.take (ix - c0 - 1) ++ [((⟨ix, tm, kd, d⟩ : En), (Value.slice A10 d.length c11))]).length) (xs' := rowC enC (es.take (ix - c0 - 1) ++ [((⟨ix, tm, kd, d⟩ : En), (Value.slice A10 d.length c11))])) rfl (by rw [List.length_append]; rfl) (by rw [← rowC_app]; rfl)
 obtain ⟨A96, c97, rfl, hl98, hm99⟩ := hH.row_form 4 rfl
 refine Nl (hH.sb (slc (slk (slk sln)))) fun hS9 => Gp1 2 [18,19] 43 (Pp g 4) hS9 <| gds 20 (Ks 0 (.slice A96 ((es.take (ix - c0 - 1) ++ [((⟨ix, tm, kd, d⟩ : En), (Value.slice A10 d.length c11))]).length) c97) rfl hH rfl rfl ?_)
 clear hH; intro w100 hH
 refine Nl (hH.sb (slc (slk (slk sln)))) fun hS9 => gdn [] <| sw_next <| sw_sr <| Go1 1 4 (.bool true) <| Dn <| Rt1 rfl rfl ?_
 replace hH := hH.fr3.fr5.fr3
 replace hH := (hH.sb (slk (slk (slk sln)))).n3
 exact .inr ⟨_, _, rfl, by omega, hH.turned⟩
 refine st_buildS (e := 64) (zv := .agg #[.int .i64 0, .int .i64 0, .int .i64 0, .slice none 0 0]) (m := 4) (bytes := 48) rfl rfl rfl (by kernel_rfl) (by kernel_rfl) rfl (cs := [Ni ix, Ni tm, Ni kd, .slice A10 d.length c11]) (by kernel_rfl) rfl hH ?_
 clear hH; intro b101 w102 hH
 refine Nl (hH.sb (slc (slk (slk sln)))) fun hS9 => gdk [(24, Pp g 0), (27, Pp g 4), (36, Ni (ix - c0 - 1)), (40, .slice (some ⟨b101, 0, none⟩) 1 1)] <| gds 4 (st_q rfl rfl rfl (Lk 0 hH rfl rfl rfl) ?_)
 refine Nl hS9 fun hS9 => ?_
 obtain ⟨A9, hc9, hv9⟩ := hE.cut (by decide) 0 (ix - c0 - 1) (by omega) (by omega)
 have hR9 := en_take (by omega) hv9
 refine Dq 13 rfl (fun _ hS => (rd_cut (e := 64) (m := 4) (by kernel_rfl) (by kernel_rfl) rfl (.inl ⟨rfl, rfl⟩) (.inr ⟨_, _, rfl, rfl⟩) hc9)) hS9 <| gdk [(24, Pp g 0), (37, .slice A9 ((ix - c0 - 1) - 0) (ce - 0)), (40, .slice (some ⟨b101, 0, none⟩) 1 1)] <| gds 14 (Sc rfl rfl (EClone_ct _ (es.take (ix - c0 - 1)) _ (hR9.mono hH.zin) (enV_take hV _) (by rw [List.length_take]; omega)) ?_)
 rintro _ w105 ⟨v103, rfl, hF106⟩
 replace hH := hH.call hF106
 obtain ⟨A107, c108, rfl, hl109, hm110⟩ := hH.row_form 4 rfl
 refine Nl (hH.sb (slc (slk (slk sln)))) fun hS9 => gds 17 (Apd (e := 64) (.agg #[.int .i64 0, .int .i64 0, .int .i64 0, .slice none 0 0]) 4 48 4 rfl hH rfl rfl rfl (hH.row_reads 3 rfl) (by simp [Value.oneCell']) (by simp only [List.length_take]; unfold maxLen; omega) (by simp only [List.length_take]; omega) ?_)
 clear hH; intro v111 w112 hH
 replace hH := hH.row_eq 4 (l' := (es.take (ix - c0 - 1) ++ [((⟨ix, tm, kd, d⟩ : En), (Value.slice A10 d.length c11))]).length) (xs' := rowC enC (es.take (ix - c0 - 1) ++ [((⟨ix, tm, kd, d⟩ : En), (Value.slice A10 d.length c11))])) rfl (by rw [List.length_append]; rfl) (by rw [← rowC_app]; rfl)
 obtain ⟨A113, c114, rfl, hl115, hm116⟩ := hH.row_form 4 rfl
 refine Nl (hH.sb (slc (slk (slk sln)))) fun hS9 => Gp1 2 [18,19] 43 (Pp g 4) hS9 <| gds 20 (Ks 0 (.slice A113 ((es.take (ix - c0 - 1) ++ [((⟨ix, tm, kd, d⟩ : En), (Value.slice A10 d.length c11))]).length) c114) rfl hH rfl rfl ?_)
 clear hH; intro w117 hH
 refine Nl (hH.sb (slc (slk (slk sln)))) fun hS9 => gdn [] <| sw_next <| sw_sr <| Go1 1 4 (.bool true) <| Dn <| Rt1 rfl rfl ?_
 replace hH := hH.fr3.fr5.fr3
 replace hH := (hH.sb (slk (slk (slk sln)))).n3
 exact .inr ⟨_, _, rfl, by omega, hH.turned⟩
 refine st_buildS (e := 64) (zv := .agg #[.int .i64 0, .int .i64 0, .int .i64 0, .slice none 0 0]) (m := 4) (bytes := 48) rfl rfl rfl (by kernel_rfl) (by kernel_rfl) rfl (cs := [Ni ix, Ni tm, Ni kd, .slice A10 d.length c11]) (by kernel_rfl) rfl hH ?_
 clear hH; intro b118 w119 hH
 refine Nl (hH.sb (slc (slk (slk sln)))) fun hS9 => gdk [(24, Pp g 0), (27, Pp g 4), (30, Ni ix), (33, Pp g 2), (40, .slice (some ⟨b118, 0, none⟩) 1 1)] <| gd_st2 4 10 (by kernel_rfl) ?_ ?_
 refine st_q rfl rfl rfl (Lk 0 hH rfl rfl rfl) <| Nl hS9 fun hS9 => gdk [(24, Pp g 0), (28, .slice Ae es.length ce), (30, Ni ix), (33, Pp g 2), (40, .slice (some ⟨b118, 0, none⟩) 1 1)] <| gds 10 (st_q rfl rfl rfl (Lk 0 hH rfl rfl rfl) ?_)
 refine Nl hS9 fun hS9 => Dw0 1 [11] 35 ((ix : Int) - (c0 : Int)) ((ix - c0 : Nat) : Int) hS9 <| Dw0 1 [12] 36 (((ix - c0 : Nat) : Int) - 1) (((ix - c0 - 1) : Nat) : Int) hS9 ?_
 obtain ⟨A9, hc9, hv9⟩ := hE.cut (by decide) 0 (ix - c0 - 1) (by omega) (by omega)
 have hR9 := en_take (by omega) hv9
 refine Dq 13 rfl (fun _ hS => (rd_cut (e := 64) (m := 4) (by kernel_rfl) (by kernel_rfl) rfl (.inl ⟨rfl, rfl⟩) (.inr ⟨_, _, rfl, rfl⟩) hc9)) hS9 <| gdk [(24, Pp g 0), (37, .slice A9 ((ix - c0 - 1) - 0) (ce - 0)), (40, .slice (some ⟨b118, 0, none⟩) 1 1)] <| gds 14 (Sc rfl rfl (EClone_ct _ (es.take (ix - c0 - 1)) _ (hR9.mono hH.zin) (enV_take hV _) (by rw [List.length_take]; omega)) ?_)
 rintro _ w122 ⟨v120, rfl, hF123⟩
 replace hH := hH.call hF123
 obtain ⟨A124, c125, rfl, hl126, hm127⟩ := hH.row_form 4 rfl
 refine Nl (hH.sb (slc (slk (slk sln)))) fun hS9 => gds 17 (Apd (e := 64) (.agg #[.int .i64 0, .int .i64 0, .int .i64 0, .slice none 0 0]) 4 48 4 rfl hH rfl rfl rfl (hH.row_reads 3 rfl) (by simp [Value.oneCell']) (by simp only [List.length_take]; unfold maxLen; omega) (by simp only [List.length_take]; omega) ?_)
 clear hH; intro v128 w129 hH
 replace hH := hH.row_eq 4 (l' := (es.take (ix - c0 - 1) ++ [((⟨ix, tm, kd, d⟩ : En), (Value.slice A10 d.length c11))]).length) (xs' := rowC enC (es.take (ix - c0 - 1) ++ [((⟨ix, tm, kd, d⟩ : En), (Value.slice A10 d.length c11))])) rfl (by rw [List.length_append]; rfl) (by rw [← rowC_app]; rfl)
 obtain ⟨A130, c131, rfl, hl132, hm133⟩ := hH.row_form 4 rfl
 refine Nl (hH.sb (slc (slk (slk sln)))) fun hS9 => Gp1 2 [18,19] 43 (Pp g 4) hS9 <| gds 20 (Ks 0 (.slice A130 ((es.take (ix - c0 - 1) ++ [((⟨ix, tm, kd, d⟩ : En), (Value.slice A10 d.length c11))]).length) c131) rfl hH rfl rfl ?_)
 clear hH; intro w134 hH
 refine Nl (hH.sb (slc (slk (slk sln)))) fun hS9 => gdn [] <| sw_next <| sw_sr <| Go1 1 4 (.bool true) <| Dn <| Rt1 rfl rfl ?_
 replace hH := hH.fr3.fr5.fr3
 replace hH := (hH.sb (slk (slk (slk sln)))).n3
 exact .inr ⟨_, _, rfl, by omega, hH.turned⟩
 refine st_q rfl rfl rfl (Lk 0 hH rfl rfl rfl) <| Nl hS9 fun hS9 => gdk [(24, Pp g 0), (27, Pp g 4), (30, Ni ix), (34, Ni c0), (40, .slice (some ⟨b118, 0, none⟩) 1 1)] <| Dw0 1 [11] 35 ((ix : Int) - (c0 : Int)) ((ix - c0 : Nat) : Int) hS9 <| Dw0 1 [12] 36 (((ix - c0 : Nat) : Int) - 1) (((ix - c0 - 1) : Nat) : Int) hS9 <| gds 4 (st_q rfl rfl rfl (Lk 0 hH rfl rfl rfl) ?_)
 refine Nl hS9 fun hS9 => ?_
 obtain ⟨A9, hc9, hv9⟩ := hE.cut (by decide) 0 (ix - c0 - 1) (by omega) (by omega)
 have hR9 := en_take (by omega) hv9
 refine Dq 13 rfl (fun _ hS => (rd_cut (e := 64) (m := 4) (by kernel_rfl) (by kernel_rfl) rfl (.inl ⟨rfl, rfl⟩) (.inr ⟨_, _, rfl, rfl⟩) hc9)) hS9 <| gdk [(24, Pp g 0), (37, .slice A9 ((ix - c0 - 1) - 0) (ce - 0)), (40, .slice (some ⟨b118, 0, none⟩) 1 1)] <| gds 14 (Sc rfl rfl (EClone_ct _ (es.take (ix - c0 - 1)) _ (hR9.mono hH.zin) (enV_take hV _) (by rw [List.length_take]; omega)) ?_)
 rintro _ w137 ⟨v135, rfl, hF138⟩
 replace hH := hH.call hF138
 obtain ⟨A139, c140, rfl, hl141, hm142⟩ := hH.row_form 4 rfl
 refine Nl (hH.sb (slc (slk (slk sln)))) fun hS9 => gds 17 (Apd (e := 64) (.agg #[.int .i64 0, .int .i64 0, .int .i64 0, .slice none 0 0]) 4 48 4 rfl hH rfl rfl rfl (hH.row_reads 3 rfl) (by simp [Value.oneCell']) (by simp only [List.length_take]; unfold maxLen; omega) (by simp only [List.length_take]; omega) ?_)
 clear hH; intro v143 w144 hH
 replace hH := hH.row_eq 4 (l' := (es.take (ix - c0 - 1) ++ [((⟨ix, tm, kd, d⟩ : En), (Value.slice A10 d.length c11))]).length) (xs' := rowC enC (es.take (ix - c0 - 1) ++ [((⟨ix, tm, kd, d⟩ : En), (Value.slice A10 d.length c11))])) rfl (by rw [List.length_append]; rfl) (by rw [← rowC_app]; rfl)
 obtain ⟨A145, c146, rfl, hl147, hm148⟩ := hH.row_form 4 rfl
 refine Nl (hH.sb (slc (slk (slk sln)))) fun hS9 => Gp1 2 [18,19] 43 (Pp g 4) hS9 <| gds 20 (Ks 0 (.slice A145 ((es.take (ix - c0 - 1) ++ [((⟨ix, tm, kd, d⟩ : En), (Value.slice A10 d.length c11))]).length) c146) rfl hH rfl rfl ?_)
 clear hH; intro w149 hH
 refine Nl (hH.sb (slc (slk (slk sln)))) fun hS9 => gdn [] <| sw_next <| sw_sr <| Go1 1 4 (.bool true) <| Dn <| Rt1 rfl rfl ?_
 replace hH := hH.fr3.fr5.fr3
 replace hH := (hH.sb (slk (slk (slk sln)))).n3
 exact .inr ⟨_, _, rfl, by omega, hH.turned⟩
theorem Put1_ct (g c0 ix tm kd : Nat) (te vo ah : Int) (db : Nat) (fi lo : Int) (bad : Value) (ve vd : Value) (es : EQ) (d : List UInt8) (w : World) (hM : Mine w [.blk g 96 [.pointer (some ⟨db, 0, none⟩), .int .i64 te, .int .i64 vo, .int .i64 ((c0 : Nat) : Int), .int .i64 ah, ve, .int .i64 fi, .int .i64 lo, bad]]) (hE : Row (off w (blksOf [.blk g 96 [.pointer (some ⟨db, 0, none⟩), .int .i64 te, .int .i64 vo, .int .i64 ((c0 : Nat) : Int), .int .i64 ah, ve, .int .i64 fi, .int .i64 lo, bad]])) ve 4 es.length (rowC enC es)) (hV : EnV es) (hd : RB (off w (blksOf [.blk g 96 [.pointer (some ⟨db, 0, none⟩), .int .i64 te, .int .i64 vo, .int .i64 ((c0 : Nat) : Int), .int .i64 ah, ve, .int .i64 fi, .int .i64 lo, bad]])) vd d) (hl : es.length ≤ 1000000) (hx : ix < 9223372036854775808) (hcx : c0 + es.length < 9223372036854775808) (hdl : d.length ≤ 1048576) :
    Fun Tryz.prog 48 [.pointer (some ⟨g, 1, none⟩), .agg #[.int .i64 ((ix : Nat) : Int), .int .i64 ((tm : Nat) : Int), .int .i64 ((kd : Nat) : Int), vd]] w fun v w' => (v = .bool false ∧ (ix ≤ c0 ∨ c0 + es.length < ix - 1) ∧ Turn w w' [.blk g 96 [.pointer (some ⟨db, 0, none⟩), .int .i64 te, .int .i64 vo, .int .i64 ((c0 : Nat) : Int), .int .i64 ah, ve, .int .i64 fi, .int .i64 lo, bad]] [.blk g 96 [.pointer (some ⟨db, 0, none⟩), .int .i64 te, .int .i64 vo, .int .i64 ((c0 : Nat) : Int), .int .i64 ah, ve, .int .i64 fi, .int .i64 lo, bad]]) ∨ (∃ v1 vd2, v = .bool true ∧ ¬ (ix ≤ c0 ∨ c0 + es.length < ix - 1) ∧ Turn w w' [.blk g 96 [.pointer (some ⟨db, 0, none⟩), .int .i64 te, .int .i64 vo, .int .i64 ((c0 : Nat) : Int), .int .i64 ah, ve, .int .i64 fi, .int .i64 lo, bad]] [.blk g 96 [.pointer (some ⟨db, 0, none⟩), .int .i64 te, .int .i64 vo, .int .i64 ((c0 : Nat) : Int), .int .i64 ah, v1, .int .i64 fi, .int .i64 lo, bad], .row v1 64 4 (es.take (ix - c0 - 1) ++ [((⟨ix, tm, kd, d⟩ : En), vd2)]).length (rowC enC (es.take (ix - c0 - 1) ++ [((⟨ix, tm, kd, d⟩ : En), vd2)])), .row vd2 5 1 d.length (bv d)]) := by
 obtain ⟨Ae, ce, rfl, he1, he2⟩ := hE.form
 obtain ⟨Ad, cd, rfl, hd1, hd2⟩ := hd.row.form
 refine fun_of_sw Tryz.func48 rfl 44 rfl rfl ?_
 have hH := Hp.start_mine hM
 refine sw_sr <| gl_st (Bx [Ni ix, Ni tm, Ni kd, .slice Ad d.length cd] rfl hH ?_)
 clear hH; intro b1 w2 hH
 refine Go0 1 <| Dn <| sw_seq <| sw_seq <| Dr hH (slk (slk sln)) ?_
 clear hH; intro w3 hH hS9
 refine Gp1 1 [0] 5 (Pp b1 0) hS9 <| Dq 1 rfl (fun _ hS => (Lk 1 hS rfl rfl rfl)) hS9 <| Gp1 3 [2,3,4] 9 (Pp g 3) hS9 <| Dq 5 rfl (fun _ hS => (Lk 0 hS rfl rfl rfl)) hS9 <| Gp1 2 [6,7] 12 (.bool (decide ((ix : Int) ≤ (c0 : Int)))) hS9 <| Di 12 rfl (fun hg1 => ?_) (fun hg1 => ?_)
 refine Gp1 7 [8,9,10,11,12,13,14] 19 (.bool true) hS9 <| gdn [(0, Pp g 1), (3, Pp b1 0), (19, .bool true)] <| sw_next <| It <| sw_sr <| Go1 1 4 (.bool false) <| Dn <| Rt1 rfl rfl ?_
 replace hH := (hH.sb (slk sln)).n1
 exact .inl ⟨rfl, by omega, hH.turned⟩
 refine Gp1 1 [8] 13 (Pp b1 0) hS9 <| Dq 9 rfl (fun _ hS => (Lk 1 hS rfl rfl rfl)) hS9 <| Dw0 1 [10] 15 ((ix : Int) - 1) ((ix - 1 : Nat) : Int) hS9 <| Gp1 1 [11] 16 (Pp g 1) hS9 <| gds 12 (Sc rfl rfl (End1_ct g c0 es.length ce Ae _ (hH.blk_cell 0 rfl rfl) (hH.blk_cell 0 rfl rfl) (by omega)) ?_)
 rintro _ w4 ⟨rfl, hF5⟩
 replace hH := hH.call hF5
 refine Nl (hH.sb (slk (slk sln))) fun hS9 => Gp1 2 [13,14] 19 (.bool (decide (((ix - 1 : Nat) : Int) > ((c0 + es.length : Nat) : Int)))) hS9 <| gdn [(0, Pp g 1), (3, Pp b1 0), (19, .bool (decide (((ix - 1 : Nat) : Int) > ((c0 + es.length : Nat) : Int))))] <| sw_next <| If rfl (fun hc3 => ?_) (fun hc3 => ?_)
 refine sw_sr <| Go1 1 4 (.bool false) <| Dn <| Rt1 rfl rfl ?_
 replace hH := (hH.sb (slk sln)).n1
 exact .inl ⟨rfl, by omega, hH.turned⟩
 refine Sk <| sw_sr <| Go1 1 20 (Pp b1 3) <| Gq rfl (Lk 1 hH rfl rfl rfl) <| gl_st (Sc rfl rfl (SClone_ct _ d _ (hd.mono hH.zin) (by omega)) ?_)
 rintro _ w8 ⟨v6, rfl, hF9⟩
 replace hH := hH.call hF9
 obtain ⟨A10, c11, rfl, hl12, hm13⟩ := hH.row_form 2 rfl
 refine Go1 1 23 (Pp b1 3) <| gl_st (Ks 1 (.slice A10 d.length c11) rfl hH rfl rfl ?_)
 clear hH; intro w14 hH
 refine Dn <| sw_seq <| Dr hH (slc (slk (slk sln))) ?_
 clear hH; intro w15 hH hS9
 refine Gp3 5 [0,1,2,3,5] 24 (Pp g 1) 27 (Pp g 5) 29 (Pp b1 0) hS9 <| Dq 6 rfl (fun _ hS => (Lk 0 hS rfl rfl rfl)) hS9 <| Gp1 3 [7,8,9] 33 (Pp g 3) hS9 <| Dq 15 rfl (fun _ hS => (La 0 [Ni ix, Ni tm, Ni kd, .slice A10 d.length c11] hS rfl rfl)) hS9 <| gd_st3 4 10 16 (by kernel_rfl) ?_ ?_ ?_
 refine st_q rfl rfl rfl (Lk 0 hH rfl rfl rfl) <| Nl hS9 fun hS9 => gdk [(24, Pp g 1), (28, .slice Ae es.length ce), (30, Ni ix), (33, Pp g 3), (39, .agg #[Ni ix, Ni tm, Ni kd, .slice A10 d.length c11])] <| gd_st2 10 16 (by kernel_rfl) ?_ ?_
 refine st_q rfl rfl rfl (Lk 0 hH rfl rfl rfl) <| Nl hS9 fun hS9 => gdk [(24, Pp g 1), (28, .slice Ae es.length ce), (30, Ni ix), (34, Ni c0), (39, .agg #[Ni ix, Ni tm, Ni kd, .slice A10 d.length c11])] <| Dw0 1 [11] 35 ((ix : Int) - (c0 : Int)) ((ix - c0 : Nat) : Int) hS9 <| Dw0 1 [12] 36 (((ix - c0 : Nat) : Int) - 1) (((ix - c0 - 1) : Nat) : Int) hS9 ?_
 obtain ⟨A9, hc9, hv9⟩ := hE.cut (by decide) 0 (ix - c0 - 1) (by omega) (by omega)
 have hR9 := en_take (by omega) hv9
 refine Dq 13 rfl (fun _ hS => (rd_cut (e := 64) (m := 4) (by kernel_rfl) (by kernel_rfl) rfl (.inl ⟨rfl, rfl⟩) (.inr ⟨_, _, rfl, rfl⟩) hc9)) hS9 <| gdk [(24, Pp g 1), (37, .slice A9 ((ix - c0 - 1) - 0) (ce - 0)), (39, .agg #[Ni ix, Ni tm, Ni kd, .slice A10 d.length c11])] <| gd_st2 14 16 (by kernel_rfl) ?_ ?_
 refine Sc rfl rfl (EClone_ct _ (es.take (ix - c0 - 1)) _ (hR9.mono hH.zin) (enV_take hV _) (by rw [List.length_take]; omega)) ?_
 rintro _ w18 ⟨v16, rfl, hF19⟩
 replace hH := hH.call hF19
 obtain ⟨A20, c21, rfl, hl22, hm23⟩ := hH.row_form 3 rfl
 refine Nl (hH.sb (slc (slk (slk sln)))) fun hS9 => gdk [(24, Pp g 1), (38, .slice A20 ((es.take (ix - c0 - 1)).length) c21), (39, .agg #[Ni ix, Ni tm, Ni kd, .slice A10 d.length c11])] <| gds 16 (st_buildS (e := 64) (zv := .agg #[.int .i64 0, .int .i64 0, .int .i64 0, .slice none 0 0]) (m := 4) (bytes := 48) rfl rfl rfl (by kernel_rfl) (by kernel_rfl) rfl (cs := [Ni ix, Ni tm, Ni kd, .slice A10 d.length c11]) (by kernel_rfl) rfl hH ?_)
 clear hH; intro b24 w25 hH
 refine Nl (hH.sb (slc (slk (slk sln)))) fun hS9 => gds 17 (Apd (e := 64) (.agg #[.int .i64 0, .int .i64 0, .int .i64 0, .slice none 0 0]) 4 48 3 rfl hH rfl rfl rfl (hH.row_reads 4 rfl) (by simp [Value.oneCell']) (by simp only [List.length_take]; unfold maxLen; omega) (by simp only [List.length_take]; omega) ?_)
 clear hH; intro v26 w27 hH
 replace hH := hH.row_eq 3 (l' := (es.take (ix - c0 - 1) ++ [((⟨ix, tm, kd, d⟩ : En), (Value.slice A10 d.length c11))]).length) (xs' := rowC enC (es.take (ix - c0 - 1) ++ [((⟨ix, tm, kd, d⟩ : En), (Value.slice A10 d.length c11))])) rfl (by rw [List.length_append]; rfl) (by rw [← rowC_app]; rfl)
 obtain ⟨A28, c29, rfl, hl30, hm31⟩ := hH.row_form 3 rfl
 refine Nl (hH.sb (slc (slk (slk sln)))) fun hS9 => Gp1 2 [18,19] 43 (Pp g 5) hS9 <| gds 20 (Ks 0 (.slice A28 ((es.take (ix - c0 - 1) ++ [((⟨ix, tm, kd, d⟩ : En), (Value.slice A10 d.length c11))]).length) c29) rfl hH rfl rfl ?_)
 clear hH; intro w32 hH
 refine Nl (hH.sb (slc (slk (slk sln)))) fun hS9 => gdn [] <| sw_next <| sw_sr <| Go1 1 4 (.bool true) <| Dn <| Rt1 rfl rfl ?_
 replace hH := hH.fr3.fr4.fr3
 replace hH := (hH.sb (slk (slk (slk sln)))).n3
 exact .inr ⟨_, _, rfl, by omega, hH.turned⟩
 refine st_buildS (e := 64) (zv := .agg #[.int .i64 0, .int .i64 0, .int .i64 0, .slice none 0 0]) (m := 4) (bytes := 48) rfl rfl rfl (by kernel_rfl) (by kernel_rfl) rfl (cs := [Ni ix, Ni tm, Ni kd, .slice A10 d.length c11]) (by kernel_rfl) rfl hH ?_
 clear hH; intro b33 w34 hH
 refine Nl (hH.sb (slc (slk (slk sln)))) fun hS9 => gdk [(24, Pp g 1), (37, .slice A9 ((ix - c0 - 1) - 0) (ce - 0)), (40, .slice (some ⟨b33, 0, none⟩) 1 1)] <| gds 14 (Sc rfl rfl (EClone_ct _ (es.take (ix - c0 - 1)) _ (hR9.mono hH.zin) (enV_take hV _) (by rw [List.length_take]; omega)) ?_)
 rintro _ w37 ⟨v35, rfl, hF38⟩
 replace hH := hH.call hF38
 obtain ⟨A39, c40, rfl, hl41, hm42⟩ := hH.row_form 4 rfl
 refine Nl (hH.sb (slc (slk (slk sln)))) fun hS9 => gds 17 (Apd (e := 64) (.agg #[.int .i64 0, .int .i64 0, .int .i64 0, .slice none 0 0]) 4 48 4 rfl hH rfl rfl rfl (hH.row_reads 3 rfl) (by simp [Value.oneCell']) (by simp only [List.length_take]; unfold maxLen; omega) (by simp only [List.length_take]; omega) ?_)
 clear hH; intro v43 w44 hH
 replace hH := hH.row_eq 4 (l' := (es.take (ix - c0 - 1) ++ [((⟨ix, tm, kd, d⟩ : En), (Value.slice A10 d.length c11))]).length) (xs' := rowC enC (es.take (ix - c0 - 1) ++ [((⟨ix, tm, kd, d⟩ : En), (Value.slice A10 d.length c11))])) rfl (by rw [List.length_append]; rfl) (by rw [← rowC_app]; rfl)
 obtain ⟨A45, c46, rfl, hl47, hm48⟩ := hH.row_form 4 rfl
 refine Nl (hH.sb (slc (slk (slk sln)))) fun hS9 => Gp1 2 [18,19] 43 (Pp g 5) hS9 <| gds 20 (Ks 0 (.slice A45 ((es.take (ix - c0 - 1) ++ [((⟨ix, tm, kd, d⟩ : En), (Value.slice A10 d.length c11))]).length) c46) rfl hH rfl rfl ?_)
 clear hH; intro w49 hH
 refine Nl (hH.sb (slc (slk (slk sln)))) fun hS9 => gdn [] <| sw_next <| sw_sr <| Go1 1 4 (.bool true) <| Dn <| Rt1 rfl rfl ?_
 replace hH := hH.fr3.fr5.fr3
 replace hH := (hH.sb (slk (slk (slk sln)))).n3
 exact .inr ⟨_, _, rfl, by omega, hH.turned⟩
 refine st_buildS (e := 64) (zv := .agg #[.int .i64 0, .int .i64 0, .int .i64 0, .slice none 0 0]) (m := 4) (bytes := 48) rfl rfl rfl (by kernel_rfl) (by kernel_rfl) rfl (cs := [Ni ix, Ni tm, Ni kd, .slice A10 d.length c11]) (by kernel_rfl) rfl hH ?_
 clear hH; intro b50 w51 hH
 refine Nl (hH.sb (slc (slk (slk sln)))) fun hS9 => gdk [(24, Pp g 1), (28, .slice Ae es.length ce), (30, Ni ix), (33, Pp g 3), (40, .slice (some ⟨b50, 0, none⟩) 1 1)] <| gds 10 (st_q rfl rfl rfl (Lk 0 hH rfl rfl rfl) ?_)
 refine Nl hS9 fun hS9 => Dw0 1 [11] 35 ((ix : Int) - (c0 : Int)) ((ix - c0 : Nat) : Int) hS9 <| Dw0 1 [12] 36 (((ix - c0 : Nat) : Int) - 1) (((ix - c0 - 1) : Nat) : Int) hS9 ?_
 obtain ⟨A9, hc9, hv9⟩ := hE.cut (by decide) 0 (ix - c0 - 1) (by omega) (by omega)
 have hR9 := en_take (by omega) hv9
 refine Dq 13 rfl (fun _ hS => (rd_cut (e := 64) (m := 4) (by kernel_rfl) (by kernel_rfl) rfl (.inl ⟨rfl, rfl⟩) (.inr ⟨_, _, rfl, rfl⟩) hc9)) hS9 <| gdk [(24, Pp g 1), (37, .slice A9 ((ix - c0 - 1) - 0) (ce - 0)), (40, .slice (some ⟨b50, 0, none⟩) 1 1)] <| gds 14 (Sc rfl rfl (EClone_ct _ (es.take (ix - c0 - 1)) _ (hR9.mono hH.zin) (enV_take hV _) (by rw [List.length_take]; omega)) ?_)
 rintro _ w54 ⟨v52, rfl, hF55⟩
 replace hH := hH.call hF55
 obtain ⟨A56, c57, rfl, hl58, hm59⟩ := hH.row_form 4 rfl
 refine Nl (hH.sb (slc (slk (slk sln)))) fun hS9 => gds 17 (Apd (e := 64) (.agg #[.int .i64 0, .int .i64 0, .int .i64 0, .slice none 0 0]) 4 48 4 rfl hH rfl rfl rfl (hH.row_reads 3 rfl) (by simp [Value.oneCell']) (by simp only [List.length_take]; unfold maxLen; omega) (by simp only [List.length_take]; omega) ?_)
 clear hH; intro v60 w61 hH
 replace hH := hH.row_eq 4 (l' := (es.take (ix - c0 - 1) ++ [((⟨ix, tm, kd, d⟩ : En), (Value.slice A10 d.length c11))]).length) (xs' := rowC enC (es.take (ix - c0 - 1) ++ [((⟨ix, tm, kd, d⟩ : En), (Value.slice A10 d.length c11))])) rfl (by rw [List.length_append]; rfl) (by rw [← rowC_app]; rfl)
 obtain ⟨A62, c63, rfl, hl64, hm65⟩ := hH.row_form 4 rfl
 refine Nl (hH.sb (slc (slk (slk sln)))) fun hS9 => Gp1 2 [18,19] 43 (Pp g 5) hS9 <| gds 20 (Ks 0 (.slice A62 ((es.take (ix - c0 - 1) ++ [((⟨ix, tm, kd, d⟩ : En), (Value.slice A10 d.length c11))]).length) c63) rfl hH rfl rfl ?_)
 clear hH; intro w66 hH
 refine Nl (hH.sb (slc (slk (slk sln)))) fun hS9 => gdn [] <| sw_next <| sw_sr <| Go1 1 4 (.bool true) <| Dn <| Rt1 rfl rfl ?_
 replace hH := hH.fr3.fr5.fr3
 replace hH := (hH.sb (slk (slk (slk sln)))).n3
 exact .inr ⟨_, _, rfl, by omega, hH.turned⟩
 refine st_q rfl rfl rfl (Lk 0 hH rfl rfl rfl) <| Nl hS9 fun hS9 => gdk [(24, Pp g 1), (27, Pp g 5), (30, Ni ix), (34, Ni c0), (39, .agg #[Ni ix, Ni tm, Ni kd, .slice A10 d.length c11])] <| Dw0 1 [11] 35 ((ix : Int) - (c0 : Int)) ((ix - c0 : Nat) : Int) hS9 <| Dw0 1 [12] 36 (((ix - c0 : Nat) : Int) - 1) (((ix - c0 - 1) : Nat) : Int) hS9 <| gd_st2 4 16 (by kernel_rfl) ?_ ?_
 refine st_q rfl rfl rfl (Lk 0 hH rfl rfl rfl) <| Nl hS9 fun hS9 => gdk [(24, Pp g 1), (28, .slice Ae es.length ce), (36, Ni (ix - c0 - 1)), (39, .agg #[Ni ix, Ni tm, Ni kd, .slice A10 d.length c11])] ?_
 obtain ⟨A9, hc9, hv9⟩ := hE.cut (by decide) 0 (ix - c0 - 1) (by omega) (by omega)
 have hR9 := en_take (by omega) hv9
 refine Dq 13 rfl (fun _ hS => (rd_cut (e := 64) (m := 4) (by kernel_rfl) (by kernel_rfl) rfl (.inl ⟨rfl, rfl⟩) (.inr ⟨_, _, rfl, rfl⟩) hc9)) hS9 <| gdk [(24, Pp g 1), (37, .slice A9 ((ix - c0 - 1) - 0) (ce - 0)), (39, .agg #[Ni ix, Ni tm, Ni kd, .slice A10 d.length c11])] <| gd_st2 14 16 (by kernel_rfl) ?_ ?_
 refine Sc rfl rfl (EClone_ct _ (es.take (ix - c0 - 1)) _ (hR9.mono hH.zin) (enV_take hV _) (by rw [List.length_take]; omega)) ?_
 rintro _ w69 ⟨v67, rfl, hF70⟩
 replace hH := hH.call hF70
 obtain ⟨A71, c72, rfl, hl73, hm74⟩ := hH.row_form 3 rfl
 refine Nl (hH.sb (slc (slk (slk sln)))) fun hS9 => gdk [(24, Pp g 1), (38, .slice A71 ((es.take (ix - c0 - 1)).length) c72), (39, .agg #[Ni ix, Ni tm, Ni kd, .slice A10 d.length c11])] <| gds 16 (st_buildS (e := 64) (zv := .agg #[.int .i64 0, .int .i64 0, .int .i64 0, .slice none 0 0]) (m := 4) (bytes := 48) rfl rfl rfl (by kernel_rfl) (by kernel_rfl) rfl (cs := [Ni ix, Ni tm, Ni kd, .slice A10 d.length c11]) (by kernel_rfl) rfl hH ?_)
 clear hH; intro b75 w76 hH
 refine Nl (hH.sb (slc (slk (slk sln)))) fun hS9 => gds 17 (Apd (e := 64) (.agg #[.int .i64 0, .int .i64 0, .int .i64 0, .slice none 0 0]) 4 48 3 rfl hH rfl rfl rfl (hH.row_reads 4 rfl) (by simp [Value.oneCell']) (by simp only [List.length_take]; unfold maxLen; omega) (by simp only [List.length_take]; omega) ?_)
 clear hH; intro v77 w78 hH
 replace hH := hH.row_eq 3 (l' := (es.take (ix - c0 - 1) ++ [((⟨ix, tm, kd, d⟩ : En), (Value.slice A10 d.length c11))]).length) (xs' := rowC enC (es.take (ix - c0 - 1) ++ [((⟨ix, tm, kd, d⟩ : En), (Value.slice A10 d.length c11))])) rfl (by rw [List.length_append]; rfl) (by rw [← rowC_app]; rfl)
 obtain ⟨A79, c80, rfl, hl81, hm82⟩ := hH.row_form 3 rfl
 refine Nl (hH.sb (slc (slk (slk sln)))) fun hS9 => Gp1 2 [18,19] 43 (Pp g 5) hS9 <| gds 20 (Ks 0 (.slice A79 ((es.take (ix - c0 - 1) ++ [((⟨ix, tm, kd, d⟩ : En), (Value.slice A10 d.length c11))]).length) c80) rfl hH rfl rfl ?_)
 clear hH; intro w83 hH
 refine Nl (hH.sb (slc (slk (slk sln)))) fun hS9 => gdn [] <| sw_next <| sw_sr <| Go1 1 4 (.bool true) <| Dn <| Rt1 rfl rfl ?_
 replace hH := hH.fr3.fr4.fr3
 replace hH := (hH.sb (slk (slk (slk sln)))).n3
 exact .inr ⟨_, _, rfl, by omega, hH.turned⟩
 refine st_buildS (e := 64) (zv := .agg #[.int .i64 0, .int .i64 0, .int .i64 0, .slice none 0 0]) (m := 4) (bytes := 48) rfl rfl rfl (by kernel_rfl) (by kernel_rfl) rfl (cs := [Ni ix, Ni tm, Ni kd, .slice A10 d.length c11]) (by kernel_rfl) rfl hH ?_
 clear hH; intro b84 w85 hH
 refine Nl (hH.sb (slc (slk (slk sln)))) fun hS9 => gdk [(24, Pp g 1), (37, .slice A9 ((ix - c0 - 1) - 0) (ce - 0)), (40, .slice (some ⟨b84, 0, none⟩) 1 1)] <| gds 14 (Sc rfl rfl (EClone_ct _ (es.take (ix - c0 - 1)) _ (hR9.mono hH.zin) (enV_take hV _) (by rw [List.length_take]; omega)) ?_)
 rintro _ w88 ⟨v86, rfl, hF89⟩
 replace hH := hH.call hF89
 obtain ⟨A90, c91, rfl, hl92, hm93⟩ := hH.row_form 4 rfl
 refine Nl (hH.sb (slc (slk (slk sln)))) fun hS9 => gds 17 (Apd (e := 64) (.agg #[.int .i64 0, .int .i64 0, .int .i64 0, .slice none 0 0]) 4 48 4 rfl hH rfl rfl rfl (hH.row_reads 3 rfl) (by simp [Value.oneCell']) (by simp only [List.length_take]; unfold maxLen; omega) (by simp only [List.length_take]; omega) ?_)
 clear hH; intro v94 w95 hH
 replace hH := hH.row_eq 4 (l' := (es.take (ix - c0 - 1) ++ [((⟨ix, tm, kd, d⟩ : En), (Value.slice A10 d.length c11))]).length) (xs' := rowC enC (es.take (ix - c0 - 1) ++ [((⟨ix, tm, kd, d⟩ : En), (Value.slice A10 d.length c11))])) rfl (by rw [List.length_append]; rfl) (by rw [← rowC_app]; rfl)
 obtain ⟨A96, c97, rfl, hl98, hm99⟩ := hH.row_form 4 rfl
 refine Nl (hH.sb (slc (slk (slk sln)))) fun hS9 => Gp1 2 [18,19] 43 (Pp g 5) hS9 <| gds 20 (Ks 0 (.slice A96 ((es.take (ix - c0 - 1) ++ [((⟨ix, tm, kd, d⟩ : En), (Value.slice A10 d.length c11))]).length) c97) rfl hH rfl rfl ?_)
 clear hH; intro w100 hH
 refine Nl (hH.sb (slc (slk (slk sln)))) fun hS9 => gdn [] <| sw_next <| sw_sr <| Go1 1 4 (.bool true) <| Dn <| Rt1 rfl rfl ?_
 replace hH := hH.fr3.fr5.fr3
 replace hH := (hH.sb (slk (slk (slk sln)))).n3
 exact .inr ⟨_, _, rfl, by omega, hH.turned⟩
 refine st_buildS (e := 64) (zv := .agg #[.int .i64 0, .int .i64 0, .int .i64 0, .slice none 0 0]) (m := 4) (bytes := 48) rfl rfl rfl (by kernel_rfl) (by kernel_rfl) rfl (cs := [Ni ix, Ni tm, Ni kd, .slice A10 d.length c11]) (by kernel_rfl) rfl hH ?_
 clear hH; intro b101 w102 hH
 refine Nl (hH.sb (slc (slk (slk sln)))) fun hS9 => gdk [(24, Pp g 1), (27, Pp g 5), (36, Ni (ix - c0 - 1)), (40, .slice (some ⟨b101, 0, none⟩) 1 1)] <| gds 4 (st_q rfl rfl rfl (Lk 0 hH rfl rfl rfl) ?_)
 refine Nl hS9 fun hS9 => ?_
 obtain ⟨A9, hc9, hv9⟩ := hE.cut (by decide) 0 (ix - c0 - 1) (by omega) (by omega)
 have hR9 := en_take (by omega) hv9
 refine Dq 13 rfl (fun _ hS => (rd_cut (e := 64) (m := 4) (by kernel_rfl) (by kernel_rfl) rfl (.inl ⟨rfl, rfl⟩) (.inr ⟨_, _, rfl, rfl⟩) hc9)) hS9 <| gdk [(24, Pp g 1), (37, .slice A9 ((ix - c0 - 1) - 0) (ce - 0)), (40, .slice (some ⟨b101, 0, none⟩) 1 1)] <| gds 14 (Sc rfl rfl (EClone_ct _ (es.take (ix - c0 - 1)) _ (hR9.mono hH.zin) (enV_take hV _) (by rw [List.length_take]; omega)) ?_)
 rintro _ w105 ⟨v103, rfl, hF106⟩
 replace hH := hH.call hF106
 obtain ⟨A107, c108, rfl, hl109, hm110⟩ := hH.row_form 4 rfl
 refine Nl (hH.sb (slc (slk (slk sln)))) fun hS9 => gds 17 (Apd (e := 64) (.agg #[.int .i64 0, .int .i64 0, .int .i64 0, .slice none 0 0]) 4 48 4 rfl hH rfl rfl rfl (hH.row_reads 3 rfl) (by simp [Value.oneCell']) (by simp only [List.length_take]; unfold maxLen; omega) (by simp only [List.length_take]; omega) ?_)
 clear hH; intro v111 w112 hH
 replace hH := hH.row_eq 4 (l' := (es.take (ix - c0 - 1) ++ [((⟨ix, tm, kd, d⟩ : En), (Value.slice A10 d.length c11))]).length) (xs' := rowC enC (es.take (ix - c0 - 1) ++ [((⟨ix, tm, kd, d⟩ : En), (Value.slice A10 d.length c11))])) rfl (by rw [List.length_append]; rfl) (by rw [← rowC_app]; rfl)
 obtain ⟨A113, c114, rfl, hl115, hm116⟩ := hH.row_form 4 rfl
 refine Nl (hH.sb (slc (slk (slk sln)))) fun hS9 => Gp1 2 [18,19] 43 (Pp g 5) hS9 <| gds 20 (Ks 0 (.slice A113 ((es.take (ix - c0 - 1) ++ [((⟨ix, tm, kd, d⟩ : En), (Value.slice A10 d.length c11))]).length) c114) rfl hH rfl rfl ?_)
 clear hH; intro w117 hH
 refine Nl (hH.sb (slc (slk (slk sln)))) fun hS9 => gdn [] <| sw_next <| sw_sr <| Go1 1 4 (.bool true) <| Dn <| Rt1 rfl rfl ?_
 replace hH := hH.fr3.fr5.fr3
 replace hH := (hH.sb (slk (slk (slk sln)))).n3
 exact .inr ⟨_, _, rfl, by omega, hH.turned⟩
 refine st_buildS (e := 64) (zv := .agg #[.int .i64 0, .int .i64 0, .int .i64 0, .slice none 0 0]) (m := 4) (bytes := 48) rfl rfl rfl (by kernel_rfl) (by kernel_rfl) rfl (cs := [Ni ix, Ni tm, Ni kd, .slice A10 d.length c11]) (by kernel_rfl) rfl hH ?_
 clear hH; intro b118 w119 hH
 refine Nl (hH.sb (slc (slk (slk sln)))) fun hS9 => gdk [(24, Pp g 1), (27, Pp g 5), (30, Ni ix), (33, Pp g 3), (40, .slice (some ⟨b118, 0, none⟩) 1 1)] <| gd_st2 4 10 (by kernel_rfl) ?_ ?_
 refine st_q rfl rfl rfl (Lk 0 hH rfl rfl rfl) <| Nl hS9 fun hS9 => gdk [(24, Pp g 1), (28, .slice Ae es.length ce), (30, Ni ix), (33, Pp g 3), (40, .slice (some ⟨b118, 0, none⟩) 1 1)] <| gds 10 (st_q rfl rfl rfl (Lk 0 hH rfl rfl rfl) ?_)
 refine Nl hS9 fun hS9 => Dw0 1 [11] 35 ((ix : Int) - (c0 : Int)) ((ix - c0 : Nat) : Int) hS9 <| Dw0 1 [12] 36 (((ix - c0 : Nat) : Int) - 1) (((ix - c0 - 1) : Nat) : Int) hS9 ?_
 obtain ⟨A9, hc9, hv9⟩ := hE.cut (by decide) 0 (ix - c0 - 1) (by omega) (by omega)
 have hR9 := en_take (by omega) hv9
 refine Dq 13 rfl (fun _ hS => (rd_cut (e := 64) (m := 4) (by kernel_rfl) (by kernel_rfl) rfl (.inl ⟨rfl, rfl⟩) (.inr ⟨_, _, rfl, rfl⟩) hc9)) hS9 <| gdk [(24, Pp g 1), (37, .slice A9 ((ix - c0 - 1) - 0) (ce - 0)), (40, .slice (some ⟨b118, 0, none⟩) 1 1)] <| gds 14 (Sc rfl rfl (EClone_ct _ (es.take (ix - c0 - 1)) _ (hR9.mono hH.zin) (enV_take hV _) (by rw [List.length_take]; omega)) ?_)
 rintro _ w122 ⟨v120, rfl, hF123⟩
 replace hH := hH.call hF123
 obtain ⟨A124, c125, rfl, hl126, hm127⟩ := hH.row_form 4 rfl
 refine Nl (hH.sb (slc (slk (slk sln)))) fun hS9 => gds 17 (Apd (e := 64) (.agg #[.int .i64 0, .int .i64 0, .int .i64 0, .slice none 0 0]) 4 48 4 rfl hH rfl rfl rfl (hH.row_reads 3 rfl) (by simp [Value.oneCell']) (by simp only [List.length_take]; unfold maxLen; omega) (by simp only [List.length_take]; omega) ?_)
 clear hH; intro v128 w129 hH
 replace hH := hH.row_eq 4 (l' := (es.take (ix - c0 - 1) ++ [((⟨ix, tm, kd, d⟩ : En), (Value.slice A10 d.length c11))]).length) (xs' := rowC enC (es.take (ix - c0 - 1) ++ [((⟨ix, tm, kd, d⟩ : En), (Value.slice A10 d.length c11))])) rfl (by rw [List.length_append]; rfl) (by rw [← rowC_app]; rfl)
 obtain ⟨A130, c131, rfl, hl132, hm133⟩ := hH.row_form 4 rfl
 refine Nl (hH.sb (slc (slk (slk sln)))) fun hS9 => Gp1 2 [18,19] 43 (Pp g 5) hS9 <| gds 20 (Ks 0 (.slice A130 ((es.take (ix - c0 - 1) ++ [((⟨ix, tm, kd, d⟩ : En), (Value.slice A10 d.length c11))]).length) c131) rfl hH rfl rfl ?_)
 clear hH; intro w134 hH
 refine Nl (hH.sb (slc (slk (slk sln)))) fun hS9 => gdn [] <| sw_next <| sw_sr <| Go1 1 4 (.bool true) <| Dn <| Rt1 rfl rfl ?_
 replace hH := hH.fr3.fr5.fr3
 replace hH := (hH.sb (slk (slk (slk sln)))).n3
 exact .inr ⟨_, _, rfl, by omega, hH.turned⟩
 refine st_q rfl rfl rfl (Lk 0 hH rfl rfl rfl) <| Nl hS9 fun hS9 => gdk [(24, Pp g 1), (27, Pp g 5), (30, Ni ix), (34, Ni c0), (40, .slice (some ⟨b118, 0, none⟩) 1 1)] <| Dw0 1 [11] 35 ((ix : Int) - (c0 : Int)) ((ix - c0 : Nat) : Int) hS9 <| Dw0 1 [12] 36 (((ix - c0 : Nat) : Int) - 1) (((ix - c0 - 1) : Nat) : Int) hS9 <| gds 4 (st_q rfl rfl rfl (Lk 0 hH rfl rfl rfl) ?_)
 refine Nl hS9 fun hS9 => ?_
 obtain ⟨A9, hc9, hv9⟩ := hE.cut (by decide) 0 (ix - c0 - 1) (by omega) (by omega)
 have hR9 := en_take (by omega) hv9
 refine Dq 13 rfl (fun _ hS => (rd_cut (e := 64) (m := 4) (by kernel_rfl) (by kernel_rfl) rfl (.inl ⟨rfl, rfl⟩) (.inr ⟨_, _, rfl, rfl⟩) hc9)) hS9 <| gdk [(24, Pp g 1), (37, .slice A9 ((ix - c0 - 1) - 0) (ce - 0)), (40, .slice (some ⟨b118, 0, none⟩) 1 1)] <| gds 14 (Sc rfl rfl (EClone_ct _ (es.take (ix - c0 - 1)) _ (hR9.mono hH.zin) (enV_take hV _) (by rw [List.length_take]; omega)) ?_)
 rintro _ w137 ⟨v135, rfl, hF138⟩
 replace hH := hH.call hF138
 obtain ⟨A139, c140, rfl, hl141, hm142⟩ := hH.row_form 4 rfl
 refine Nl (hH.sb (slc (slk (slk sln)))) fun hS9 => gds 17 (Apd (e := 64) (.agg #[.int .i64 0, .int .i64 0, .int .i64 0, .slice none 0 0]) 4 48 4 rfl hH rfl rfl rfl (hH.row_reads 3 rfl) (by simp [Value.oneCell']) (by simp only [List.length_take]; unfold maxLen; omega) (by simp only [List.length_take]; omega) ?_)
 clear hH; intro v143 w144 hH
 replace hH := hH.row_eq 4 (l' := (es.take (ix - c0 - 1) ++ [((⟨ix, tm, kd, d⟩ : En), (Value.slice A10 d.length c11))]).length) (xs' := rowC enC (es.take (ix - c0 - 1) ++ [((⟨ix, tm, kd, d⟩ : En), (Value.slice A10 d.length c11))])) rfl (by rw [List.length_append]; rfl) (by rw [← rowC_app]; rfl)
 obtain ⟨A145, c146, rfl, hl147, hm148⟩ := hH.row_form 4 rfl
 refine Nl (hH.sb (slc (slk (slk sln)))) fun hS9 => Gp1 2 [18,19] 43 (Pp g 5) hS9 <| gds 20 (Ks 0 (.slice A145 ((es.take (ix - c0 - 1) ++ [((⟨ix, tm, kd, d⟩ : En), (Value.slice A10 d.length c11))]).length) c146) rfl hH rfl rfl ?_)
 clear hH; intro w149 hH
 refine Nl (hH.sb (slc (slk (slk sln)))) fun hS9 => gdn [] <| sw_next <| sw_sr <| Go1 1 4 (.bool true) <| Dn <| Rt1 rfl rfl ?_
 replace hH := hH.fr3.fr5.fr3
 replace hH := (hH.sb (slk (slk (slk sln)))).n3
 exact .inr ⟨_, _, rfl, by omega, hH.turned⟩
end Go.Proofs.YtajapgjemefoiaaGreatDoor
