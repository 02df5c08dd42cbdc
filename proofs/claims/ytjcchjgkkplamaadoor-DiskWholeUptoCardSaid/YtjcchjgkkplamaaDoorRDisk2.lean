/- Layer 18 (disk), the document's own: Start, Do: what they answer. -/
import Derived.Test.YtjcchjgkkplamaaDoorRDisk1
set_option maxRecDepth 100000
set_option maxHeartbeats 4000000
set_option linter.unusedVariables false
set_option linter.unusedSimpArgs false
namespace Go.Proofs.YtjcchjgkkplamaaDoor
open Go.RowKit Go.SW
theorem partF_get (F : List Fil) (ks : List Int) (i : Nat) : (partF F ks i)[i]? = F[i]? := by
  unfold partF
  rw [List.getElem?_mapIdx]
  cases F[i]? <;> simp
theorem partF_len (F : List Fil) (ks : List Int) (i : Nat) : (partF F ks i).length = F.length := by simp [partF]
theorem cut_f {A : Option Addr} {l c n m : Nat} (h : n ≤ l) (h2 : l ≤ c) : CutOf (.slice A l c) m 0 n c (.slice A n c) := by
  refine ⟨A, l, c, rfl, Nat.zero_le _, by omega, Nat.le_refl _, ?_⟩
  cases A with
  | none => simp
  | some a => simp [add_zero]
theorem rb_front {c : Zone} {A : Option Addr} {l cap n : Nat} {b : List UInt8} (h : RB c (.slice A l cap) b) (hn : n ≤ b.length) : RB c (.slice A n cap) (b.take n) := by
  obtain ⟨h0, A', cap', e, h1, h2, h3⟩ := h
  cases e
  have hl : (b.take n).length = n := by simp [Nat.min_eq_left hn]
  refine ⟨by simp [bv], A, cap, by rw [hl], by omega, h2, fun j u hu => h3 j u ?_⟩
  have hj : j < n := by have := (List.getElem?_eq_some_iff.1 hu).1; simpa [bv, Nat.min_eq_left hn] using this
  rw [← hu]
  simp [bv, List.getElem?_take, hj]
section
variable {w w0 : World} {z : Zone} {F : List Nat} {r : List Own}
theorem rs_set {L : FV} {i : Nat} {q : Fil × Value} (hi : i < L.length) (h : Hp w0 w z F (filR q :: filRs L :: r)) : Hp w0 w z F (filRs (L.set i q) :: r) := by
  have h1 : Hp w0 w z F ([filR q] ++ (filRs L :: r)) := h
  have h2 : Hp w0 w z F (filRs L :: (r ++ [filR q])) := h1.perm List.perm_append_comm
  have h3 := Hp.out (l := L.map filR) h2 i (o := filR L[i]) (by rw [List.getElem?_map, List.getElem?_eq_getElem hi]; rfl)
  have h4 : Hp w0 w z F ((.grp ((L.map filR).eraseIdx i) :: r) ++ [filR q]) := h3.sublist (List.sublist_cons_self _ _)
  have h5 := Hp.into (l := L.map filR) (i := i) (by simpa using hi) (h4.perm List.perm_append_comm)
  refine h5.cast ?_
  unfold filRs
  rw [List.map_set]
theorem rs_perm {L L' : FV} {q : Fil × Value} (hp : (q :: L).Perm L') (h : Hp w0 w z F (filR q :: filRs L :: r)) : Hp w0 w z F (filRs L' :: r) := by
  have h1 : Hp w0 w z F (filRs L :: (filR q :: r)) := h.perm (List.Perm.swap _ _ _)
  have h2 : Hp w0 w z F (L.map filR ++ (filR q :: r)) := h1.open_
  have h3 : Hp w0 w z F (L'.map filR ++ r) := h2.perm (List.perm_middle.trans (by
    have := (hp.map filR).append_right r
    simpa using this))
  exact h3.close
theorem rs_setL {L : FV} {q : Fil × Value} (h : Hp w0 w z F (filR q :: filRs L :: r)) : Hp w0 w z F (filRs (setL L q) :: r) := by
  unfold setL
  split
  · rename_i hlt; exact rs_set hlt h
  · refine rs_perm ?_ h
    rw [List.append_assoc]
    have h1 : (q :: L).Perm (q :: (L.take (insK L q.1.name) ++ L.drop (insK L q.1.name))) := by rw [List.take_append_drop]
    exact h1.trans List.perm_middle.symm
theorem rs_del {L : FV} (nm : List UInt8) (h : Hp w0 w z F (filRs L :: r)) : Hp w0 w z F (filRs (delL L nm) :: r) := by
  have h2 : Hp w0 w z F (L.map filR ++ r) := Hp.open_ h
  have h3 : Hp w0 w z F ((delL L nm).map filR ++ r) := h2.sublist (List.Sublist.append_right (by rw [delL_eq]; exact (List.eraseIdx_sublist _ _).map _) _)
  exact h3.close
theorem rs_same {L : FV} {g q : Fil × Value} (hlt : fndI L g.1.name < L.length) (hq : L[fndI L g.1.name]? = some q) (e : filR g = filR q) (h : Hp w0 w z F (filRs L :: r)) : Hp w0 w z F (filRs (setL L g) :: r) := by
  refine h.cast ?_
  unfold setL filRs
  rw [if_pos hlt, List.map_set, e]
  congr 2
  apply List.ext_getElem?
  intro j
  rw [List.getElem?_set]
  split
  · rename_i h; subst h
    rw [if_pos (by simpa using hlt), List.getElem?_map, hq]; rfl
  · rfl
end
theorem setL_sl {L : FV} {g : Fil × Value} (hV : SlV L) (hg : ∃ A l c, g.2 = .slice A l c) : SlV (setL L g) := by
  intro q hq
  unfold setL at hq
  split at hq
  · rcases List.mem_or_eq_of_mem_set hq with h | rfl
    · exact hV q h
    · exact hg
  · rcases List.mem_append.1 hq with h | h
    · rcases List.mem_append.1 h with h | h
      · exact hV q (List.mem_of_mem_take h)
      · simp only [List.mem_singleton] at h; subst h; exact hg
    · exact hV q (List.mem_of_mem_drop h)
theorem filRs_rb3 {w w0 : World} {z : Zone} {F : List Nat} {os : List Own} (hH : Hp w0 w z F os) (k : Nat) {L : FV} (hk : os[k]? = some (filRs L)) {i : Nat} {nm b : List UInt8} {sr : Nat} {v : Value} (hq : L[i]? = some (⟨nm, b, sr⟩, v)) : RB w.cell? v b := filRs_rb hH k hk hq
theorem rdk_find {D : Dsk} {L : FV} (hF : L.map (·.1) = D.fs) {nm : List UInt8} (hlt : fndI L nm < L.length) : ∃ b sr fv, L[fndI L nm]? = some (⟨nm, b, sr⟩, fv) ∧ oldF D.fs nm = ⟨nm, b, sr⟩ ∧ (⟨nm, b, sr⟩ : Fil) ∈ D.fs := by
  obtain ⟨⟨⟨fn, b, sr⟩, fv⟩, h1, h2⟩ := fnd_at hlt
  simp only at h2
  have h3 := h2.symm
  subst h3
  refine ⟨b, sr, fv, h1, ?_, by rw [← hF]; exact List.mem_map.2 ⟨_, List.mem_of_getElem? h1, rfl⟩⟩
  unfold oldF
  rw [← fnd_get hF, h1]; rfl
theorem rdk_no {D : Dsk} {L : FV} (hF : L.map (·.1) = D.fs) {nm : List UInt8} (hlt : ¬ fndI L nm < L.length) : oldF D.fs nm = ⟨nm, [], 0⟩ := by
  unfold oldF
  rw [← fnd_get hF, List.getElem?_eq_none (by omega)]; rfl
theorem rdk_lt {D : Dsk} {L : FV} (hF : L.map (·.1) = D.fs) {nm : List UInt8} (h : mayE D nm true = 0) : fndI L nm < L.length := by
  obtain ⟨_, _, _, _, h1, _⟩ := rdk_read hF h
  exact h1
abbrev ownR (xb : Nat) (rv : Value) (D : Dsk) (part : Int) (L : FV) : List Own := [.grp (rdkO xb rv D.off (actsI D.ar) part L)]
def RPost (xb : Nat) (rv : Value) (D : Dsk) (part : Int) (L : FV) (R : Dsk × Nat) (w : World) (v : Value) (w' : World) : Prop :=
  ∃ rv' L', v = .int .i64 ((R.2 : Nat) : Int) ∧ L'.map (·.1) = R.1.fs ∧ Turn w w' (ownR xb rv D part L) (ownR xb rv' R.1 part L')
section
variable {w w' : World} {xb : Nat} {rv rv' : Value} {D D2 : Dsk} {part : Int} {L L' : FV} {kind : Nat} {nm p : List UInt8} {n : Int} {th cu : Bool} {pt : Int}
theorem rfin_err (hF : L.map (·.1) = D.fs) (ht : decide (kind ≠ 0 ∧ kind ≠ 2) = th) (h : mayE D nm th ≠ 0) (hT : Turn w w' (ownR xb rv D part L) (ownR xb rv D part L)) : RPost xb rv D part L (doD D kind nm p n) w (.int .i64 ((mayE D nm th : Nat) : Int)) w' := by
  rw [doD_err ht h]
  exact ⟨rv, L, rfl, hF, hT⟩
theorem rfin_arg (hF : L.map (·.1) = D.fs) (h : mayE D nm true = 0) (h2 : n < 0 ∨ ((oldF D.fs nm).b.length : Int) < n) (hT : Turn w w' (ownR xb rv D part L) (ownR xb rv D part L)) : RPost xb rv D part L (doD D 3 nm p n) w (.int .i64 1) w' := by
  have e : doD D 3 nm p n = (D, 1) := by
    unfold doD
    rw [show decide ((3 : Nat) ≠ 0 ∧ (3 : Nat) ≠ 2) = true from rfl, if_neg (by rw [h]; simp), if_pos ⟨rfl, h2⟩]
  rw [e]
  exact ⟨rv, L, rfl, hF, hT⟩
theorem rfin_do (q : List UInt8) (e : Nat) (he : e = if cu = true then 80 else 0) (ht : decide (kind ≠ 0 ∧ kind ≠ 2) = th) (h : mayE D nm th = 0) (h2 : ¬ (kind = 3 ∧ (n < 0 ∨ ((oldF D.fs nm).b.length : Int) < n))) (hc : cutD D = (D2, cu, pt)) (hrun : cu = false ∨ kind = 0 ∨ modI pt 2 = 1) (hq : q = if cu = true ∧ kind = 0 then p.take (modI pt (p.length + 1)) else p)
    (hL : L'.map (·.1) = doF D.fs kind nm q n.toNat) (hT : Turn w w' (ownR xb rv D part L) [.grp (rdkO xb rv' D2.off (actsI D2.ar) part L')]) : RPost xb rv D part L (doD D kind nm p n) w (.int .i64 ((e : Nat) : Int)) w' := by
  rw [doD_ok ht h h2 hc]
  subst he
  refine ⟨rv', L', rfl, ?_, hT⟩
  show L'.map (·.1) = if cu = false ∨ kind = 0 ∨ modI pt 2 = 1 then doF D.fs kind nm (if cu = true ∧ kind = 0 then p.take (modI pt (p.length + 1)) else p) n.toNat else D.fs
  rw [if_pos hrun, ← hq, hL]
theorem rfin_not (hF : L.map (·.1) = D.fs) (e : Nat) (he : e = if cu = true then 80 else 0) (ht : decide (kind ≠ 0 ∧ kind ≠ 2) = th) (h : mayE D nm th = 0) (h2 : ¬ (kind = 3 ∧ (n < 0 ∨ ((oldF D.fs nm).b.length : Int) < n))) (hc : cutD D = (D2, cu, pt)) (hrun : ¬ (cu = false ∨ kind = 0 ∨ modI pt 2 = 1))
    (hT : Turn w w' (ownR xb rv D part L) [.grp (rdkO xb rv D2.off (actsI D2.ar) part L)]) : RPost xb rv D part L (doD D kind nm p n) w (.int .i64 ((e : Nat) : Int)) w' := by
  rw [doD_ok ht h h2 hc]
  subst he
  refine ⟨rv, L, rfl, ?_, hT⟩
  show L.map (·.1) = if cu = false ∨ kind = 0 ∨ modI pt 2 = 1 then doF D.fs kind nm (if cu = true ∧ kind = 0 then p.take (modI pt (p.length + 1)) else p) n.toNat else D.fs
  rw [if_neg hrun, hF]
end

theorem RStart_ct (xb : Nat) (rv : Value) (D : Dsk) (part : Int) (L : FV) (vk : Value) (ks : List Int) (M : Nat) (w : World) (hM : Mine w (ownR xb rv D part L)) (hF : L.map (·.1) = D.fs) (hk : Row (off w (blksOf (ownR xb rv D part L))) vk 1 ks.length (iv ks)) (hG : Good D.fs M) (hMM : M ≤ 4194304) :
    Fun Tryd.prog 68 [.pointer (some ⟨xb, 0, none⟩), vk] w fun v w' => ∃ L', v = .tuple #[] ∧ L'.map (·.1) = (startD D ks).fs ∧ Turn w w' (ownR xb rv D part L) (ownR xb rv (startD D ks) part L') := by
  obtain ⟨Ar, cr, rfl, hcr1, hcr2⟩ := (Row.of_own (hM.1 _ (List.mem_singleton.2 rfl) (lstO rv L) (by simp [rdkO]))).form
  have hcr3 := hcr2
  simp only [maxLen] at hcr3
  have hV : SlV L := filRs_sl (hM.1 _ (List.mem_singleton.2 rfl) (filRs L) (by simp [rdkO]))
  obtain ⟨Ak, ck, rfl, hk1, hk2⟩ := hk.form
  refine fun_of_sw Tryd.func68 rfl 65 rfl rfl ?_
  have hH : Hp w w (off w (blksOf (ownR xb (.slice Ar L.length cr) D part L))) (blksOf (ownR xb (.slice Ar L.length cr) D part L)) (rdkO xb (.slice Ar L.length cr) D.off (actsI D.ar) part L ++ []) := (Hp.start_mine hM).open_
  replace hH : Hp w w _ _ [.blk xb 87 [.slice Ar L.length cr, .bool D.off, .int .i64 (actsI D.ar), .int .i64 part], .row (.slice Ar L.length cr) 89 3 L.length (rowC filC L), filRs L] := hH
  refine sw_seq ?_
  refine sw_seq ?_
  refine sw_region ?_  -- R0 ref.go:154
  refine gl_ops 1 [(0, .pointer (some ⟨xb, 0, none⟩)), (1, .slice Ak ks.length ck), (4, .int .i64 0)] (by kernel_rfl) ?_
  refine gl_done rfl ?_
  refine sw_next ?_
  refine sw_block ?_
  replace hH := (hH.sublist (.cons_cons _ (.cons_cons _ (.cons_cons _ (List.nil_sublist _)))))
  replace hH : Hp w w _ _ [.blk xb 87 [.slice Ar L.length cr, .bool D.off, .int .i64 (actsI D.ar), .int .i64 part], .row (.slice Ar L.length cr) 89 3 L.length (rowC filC L), filRs L] := hH
  refine sw_loop (γ := Nat × FV) (fun (i, L2) => [(0, .pointer (some ⟨xb, 0, none⟩)), (1, .slice Ak ks.length ck), (4, .int .i64 ((i : Nat) : Int))]) (fun (i, L2) w_ => (i ≤ L.length) ∧ (L2.map (·.1) = partF D.fs ks i) ∧ (L2.length = L.length) ∧ Hp w w_ (off w (blksOf (ownR xb (.slice Ar L.length cr) D part L))) (blksOf (ownR xb (.slice Ar L.length cr) D part L)) [.blk xb 87 [.slice Ar L.length cr, .bool D.off, .int .i64 (actsI D.ar), .int .i64 part], .row (.slice Ar L.length cr) 89 3 L.length (rowC filC L2), filRs L2]) (fun (i, L2) => L.length - i) (0, L) (Sub.of_eq (by kernel_rfl)) ?_ ?_
  · exact ⟨by omega, by rw [partF_zero]; exact hF, rfl, hH⟩
  clear hH
  rintro ⟨i, L2⟩ w1 ⟨hi, hL2, hlen2, hH⟩
  refine sw_keep [(0, .pointer (some ⟨xb, 0, none⟩)), (1, .slice Ak ks.length ck), (4, .int .i64 ((i : Nat) : Int))] (by kernel_rfl) ?_
  refine sw_seq ?_
  refine sw_seq ?_
  refine sw_region ?_  -- R1 ref.go:154
  refine gl_ops 4 [(0, .pointer (some ⟨xb, 0, none⟩)), (1, .slice Ak ks.length ck), (4, .int .i64 ((i : Nat) : Int)), (7, .int .i64 ((i : Nat) : Int)), (10, .pointer (some ⟨xb, 0, none⟩))] (by kernel_rfl) ?_
  refine gl_q rfl rfl rfl (rd_loadK 0 (by kernel_rfl) hH rfl rfl rfl) ?_
  refine gl_q rfl rfl rfl (rd_len (e := 89) (by kernel_rfl) rfl) ?_
  refine gl_ops 1 [(0, .pointer (some ⟨xb, 0, none⟩)), (1, .slice Ak ks.length ck), (4, .int .i64 ((i : Nat) : Int)), (13, .bool (decide (((i : Nat) : Int) < ((L.length : Nat) : Int))))] (by kernel_rfl) ?_
  refine gl_done rfl ?_
  refine sw_next ?_
  refine sw_cond rfl rfl (fun hc1 => ?_) (fun hc1 => ?_)
  ·
    try simp only [decide_eq_true_eq, beq_iff_eq, bne_iff_ne, ne_eq, Bool.not_eq_true', beq_eq_false_iff_ne, bne_eq_false_iff_eq, decide_eq_false_iff_not, Int.not_lt, Int.not_le] at hc1
    refine sw_skip ?_
    refine sw_next ?_
    refine sw_seq ?_
    refine sw_block ?_
    refine sw_seq ?_
    obtain ⟨⟨f, fv⟩, hq⟩ : ∃ q, L2[i]? = some q := ⟨_, List.getElem?_eq_getElem (by omega)⟩
    have hf : D.fs[i]? = some f := by rw [← partF_get D.fs ks i, ← hL2, List.getElem?_map, hq]; rfl
    obtain ⟨Af, cf, rfl, hf1, hf2⟩ := (filRs_rb hH 2 rfl hq).row.form
    have hbM := hG.short f (List.mem_of_getElem? hf)
    have hsr := hG.sure f (List.mem_of_getElem? hf)
    have hmod := modI_lt (ks.getD i 0) (show 0 < f.b.length - f.sure + 1 by omega)
    have hsl := startS_le hsr i ks
    refine sw_region ?_  -- R3 ref.go:155
    refine gl_ops 3 [(0, .pointer (some ⟨xb, 0, none⟩)), (1, .slice Ak ks.length ck), (4, .int .i64 ((i : Nat) : Int)), (18, .pointer (some ⟨xb, 0, none⟩))] (by kernel_rfl) ?_
    refine gl_q rfl rfl rfl (rd_loadK 0 (by kernel_rfl) hH rfl rfl rfl) ?_
    obtain ⟨b3, hb2, hi4⟩ := hH.row_idx 1 rfl i (by omega)
    refine gl_ops 1 [(0, .pointer (some ⟨xb, 0, none⟩)), (1, .slice Ak ks.length ck), (4, .int .i64 ((i : Nat) : Int)), (19, .slice Ar L.length cr), (20, .int .i64 ((i : Nat) : Int))] (by kernel_rfl) ?_
    refine gl_q rfl rfl rfl (rd_idx (e := 89) (m := 3) (by kernel_rfl) (by kernel_rfl) rfl rfl hi4) ?_
    refine gl_q rfl rfl rfl (rd_loadOA (q := 3) 1 (by kernel_rfl) hH rfl rfl hb2 (by kernel_rfl) [.string (bs f.name), .slice Af f.b.length cf, .int .i64 ((f.sure : Nat) : Int)] rfl (rowC_allO filC_len hq _ rfl)) ?_
    refine gl_st (st_allocH rfl rfl rfl (cs := [.string (bs []), .slice none 0 0, .int .i64 0]) (by kernel_rfl) hH ?_)
    clear hH; intro b5 w6 hH
    refine gl_st (st_storeKA (vs := [.string (bs f.name), .slice Af f.b.length cf, .int .i64 ((f.sure : Nat) : Int)]) 3 rfl rfl rfl hH rfl rfl (by kernel_rfl) (by kernel_rfl) rfl (by simp) [.string (bs f.name), .slice Af f.b.length cf, .int .i64 ((f.sure : Nat) : Int)] rfl ?_)
    clear hH; intro w7 hH
    refine gl_done rfl ?_
    refine sw_next ?_
    refine sw_seq ?_
    refine sw_region ?_  -- R4 ref.go:156
    refine gl_ops 1 [(0, .pointer (some ⟨xb, 0, none⟩)), (1, .slice Ak ks.length ck), (4, .int .i64 ((i : Nat) : Int)), (5, .pointer (some ⟨b5, 0, none⟩)), (6, .int .i64 0)] (by kernel_rfl) ?_
    refine gl_done rfl ?_
    refine sw_next ?_
    refine sw_cut (γ := Nat) (fun n1 => [(0, .pointer (some ⟨xb, 0, none⟩)), (1, .slice Ak ks.length ck), (4, .int .i64 ((i : Nat) : Int)), (5, .pointer (some ⟨b5, 0, none⟩)), (6, .int .i64 ((n1 : Nat) : Int))]) (fun n1 w_ => (f.sure + n1 = startS f i ks) ∧ Hp w w_ (off w (blksOf (ownR xb (.slice Ar L.length cr) D part L))) (blksOf (ownR xb (.slice Ar L.length cr) D part L)) [.blk xb 87 [.slice Ar L.length cr, .bool D.off, .int .i64 (actsI D.ar), .int .i64 part], .row (.slice Ar L.length cr) 89 3 L.length (rowC filC L2), filRs L2, .blk b5 89 [.string (bs f.name), .slice Af f.b.length cf, .int .i64 ((f.sure : Nat) : Int)]]) ?_ ?_
    ·
      refine sw_seq ?_
      refine sw_region ?_  -- R5 ref.go:157
      refine gl_ops 2 [(0, .pointer (some ⟨xb, 0, none⟩)), (1, .slice Ak ks.length ck), (4, .int .i64 ((i : Nat) : Int)), (5, .pointer (some ⟨b5, 0, none⟩)), (6, .int .i64 0), (23, .int .i64 ((i : Nat) : Int)), (24, .slice Ak ks.length ck)] (by kernel_rfl) ?_
      refine gl_q rfl rfl rfl (rd_len (e := 3) (by kernel_rfl) rfl) ?_
      refine gl_ops 1 [(0, .pointer (some ⟨xb, 0, none⟩)), (1, .slice Ak ks.length ck), (4, .int .i64 ((i : Nat) : Int)), (5, .pointer (some ⟨b5, 0, none⟩)), (6, .int .i64 0), (26, .bool (decide (((i : Nat) : Int) < ((ks.length : Nat) : Int))))] (by kernel_rfl) ?_
      refine gl_done rfl ?_
      refine sw_next ?_
      refine sw_cond rfl rfl (fun hc2 => ?_) (fun hc2 => ?_)
      ·
        try simp only [decide_eq_true_eq, beq_iff_eq, bne_iff_ne, ne_eq, Bool.not_eq_true', beq_eq_false_iff_ne, bne_eq_false_iff_eq, decide_eq_false_iff_not, Int.not_lt, Int.not_le] at hc2
        refine sw_draw (by kernel_rfl) (fun w_ => Hp w w_ (off w (blksOf (ownR xb (.slice Ar L.length cr) D part L))) (blksOf (ownR xb (.slice Ar L.length cr) D part L)) [.blk xb 87 [.slice Ar L.length cr, .bool D.off, .int .i64 (actsI D.ar), .int .i64 part], .row (.slice Ar L.length cr) 89 3 L.length (rowC filC L2), filRs L2, .blk b5 89 [.string (bs f.name), .slice Af f.b.length cf, .int .i64 ((f.sure : Nat) : Int)]]) ?_  -- R6 ref.go:158
        replace hH := hH.drew
        generalize { w7 with drawn := w7.drawn + 1 } = w8 at hH ⊢
        have hS9 := hH.sublist (.cons_cons _ (.cons_cons _ (.cons_cons _ (.cons_cons _ (List.nil_sublist _)))))
        refine gd_pure 0 rfl (by kernel_rfl) (PQ.th (PQ.bk (PQ.th (PQ.th (PQ.bk (PQ.th PQ.body)))))) hS9 rfl rfl (.slice Ak ks.length ck) (by kernel_rfl) ?_
        refine gd_pure 1 rfl (by kernel_rfl) (PQ.th (PQ.bk (PQ.th (PQ.th (PQ.bk (PQ.th PQ.body)))))) hS9 rfl rfl (.int .i64 ((i : Nat) : Int)) (by kernel_rfl) ?_
        obtain ⟨p9, hi11, hp10⟩ := hk.idx i (by omega) (by decide)
        refine gd_q 2 rfl (by kernel_rfl) (PQ.th (PQ.bk (PQ.th (PQ.th (PQ.bk (PQ.th PQ.body)))))) hS9 rfl rfl (fun w_ hS => (rd_idx (e := 3) (m := 1) (by kernel_rfl) (by kernel_rfl) rfl rfl hi11)) ?_
        refine gd_keep [(0, .pointer (some ⟨xb, 0, none⟩)), (1, .slice Ak ks.length ck), (4, .int .i64 ((i : Nat) : Int)), (5, .pointer (some ⟨b5, 0, none⟩)), (6, .int .i64 0), (29, .pointer (some p9))] (by kernel_rfl) ?_
        refine gd_q 3 rfl (by kernel_rfl) (PQ.th (PQ.bk (PQ.th (PQ.th (PQ.bk (PQ.th PQ.body)))))) hS9 rfl rfl (fun w_ hS => (rd_load (by kernel_rfl) rfl (hS.zin _ _ (hp10 0 _ (by decide) (iv_at ks i (by omega)))))) ?_
        refine gd_pure 4 rfl (by kernel_rfl) (PQ.th (PQ.bk (PQ.th (PQ.th (PQ.bk (PQ.th PQ.body)))))) hS9 rfl rfl (.pointer (some ⟨b5, 1, none⟩)) (by kernel_rfl) ?_
        refine gd_q 5 rfl (by kernel_rfl) (PQ.th (PQ.bk (PQ.th (PQ.th (PQ.bk (PQ.th PQ.body)))))) hS9 rfl rfl (fun w_ hS => (rd_loadK 3 (by kernel_rfl) hS rfl rfl rfl)) ?_
        refine gd_keep [(0, .pointer (some ⟨xb, 0, none⟩)), (1, .slice Ak ks.length ck), (4, .int .i64 ((i : Nat) : Int)), (5, .pointer (some ⟨b5, 0, none⟩)), (6, .int .i64 0), (30, .int .i64 (ks.getD i 0)), (32, .slice Af f.b.length cf)] (by kernel_rfl) ?_
        refine gd_q 6 rfl (by kernel_rfl) (PQ.th (PQ.bk (PQ.th (PQ.th (PQ.bk (PQ.th PQ.body)))))) hS9 rfl rfl (fun w_ hS => (rd_len (e := 5) (by kernel_rfl) rfl)) ?_
        refine gd_pure 7 rfl (by kernel_rfl) (PQ.th (PQ.bk (PQ.th (PQ.th (PQ.bk (PQ.th PQ.body)))))) hS9 rfl rfl (.pointer (some ⟨b5, 2, none⟩)) (by kernel_rfl) ?_
        refine gd_q 8 rfl (by kernel_rfl) (PQ.th (PQ.bk (PQ.th (PQ.th (PQ.bk (PQ.th PQ.body)))))) hS9 rfl rfl (fun w_ hS => (rd_loadK 3 (by kernel_rfl) hS rfl rfl rfl)) ?_
        refine gd_keep [(0, .pointer (some ⟨xb, 0, none⟩)), (1, .slice Ak ks.length ck), (4, .int .i64 ((i : Nat) : Int)), (5, .pointer (some ⟨b5, 0, none⟩)), (6, .int .i64 0), (30, .int .i64 (ks.getD i 0)), (33, .int .i64 ((f.b.length : Nat) : Int)), (35, .int .i64 ((f.sure : Nat) : Int))] (by kernel_rfl) ?_
        refine gd_pure 9 rfl (by kernel_rfl) (PQ.th (PQ.bk (PQ.th (PQ.th (PQ.bk (PQ.th PQ.body)))))) hS9 rfl rfl (.int .i64 (IntKind.i64.wrap (((f.b.length : Nat) : Int) - ((f.sure : Nat) : Int)))) (by kernel_rfl) ?_
        refine gd_cv 36 (.int .i64 ((f.b.length - f.sure : Nat) : Int)) (cv_i64 (by omega)) rfl ?_
        refine gd_pure 10 rfl (by kernel_rfl) (PQ.th (PQ.bk (PQ.th (PQ.th (PQ.bk (PQ.th PQ.body)))))) hS9 rfl rfl (.int .i64 (IntKind.i64.wrap (((f.b.length - f.sure : Nat) : Int) + 1))) (by kernel_rfl) ?_
        refine gd_cv 37 (.int .i64 (((f.b.length - f.sure) + 1 : Nat) : Int)) (cv_i64 (by omega)) rfl ?_
        refine gd_st 11 (by kernel_rfl) (st_call rfl rfl rfl (by kernel_rfl) rfl (RMod_ct (ks.getD i 0) ((f.b.length - f.sure) + 1) _ (by omega) (by omega)) ?_)
        rintro _ w12 ⟨rfl, hF13⟩
        replace hH := hH.call hF13; clear hF13
        replace hS9 := hH.sublist (.cons_cons _ (.cons_cons _ (.cons_cons _ (.cons_cons _ (List.nil_sublist _)))))
        refine ⟨hS9, ?_⟩
        refine gd_keep [(0, .pointer (some ⟨xb, 0, none⟩)), (1, .slice Ak ks.length ck), (4, .int .i64 ((i : Nat) : Int)), (5, .pointer (some ⟨b5, 0, none⟩)), (6, .int .i64 0), (38, .int .i64 ((modI (ks.getD i 0) ((f.b.length - f.sure) + 1) : Nat) : Int))] (by kernel_rfl) ?_
        refine gd_pure 12 rfl (by kernel_rfl) (PQ.th (PQ.bk (PQ.th (PQ.th (PQ.bk (PQ.th PQ.body)))))) hS9 rfl rfl (.int .i64 ((modI (ks.getD i 0) ((f.b.length - f.sure) + 1) : Nat) : Int)) (by kernel_rfl) ?_
        refine gd_done (by kernel_rfl) ?_
        refine at_sub [(0, .pointer (some ⟨xb, 0, none⟩)), (1, .slice Ak ks.length ck), (4, .int .i64 ((i : Nat) : Int)), (5, .pointer (some ⟨b5, 0, none⟩)), (6, .int .i64 ((modI (ks.getD i 0) ((f.b.length - f.sure) + 1) : Nat) : Int))] (Sub.of_eq (by kernel_rfl)) ?_
        refine cut_end (modI (ks.getD i 0) ((f.b.length - f.sure) + 1)) (Sub.of_eq (by kernel_rfl)) ?_
        exact ⟨by unfold startS; rw [if_pos (by omega)], hH⟩
      try simp only [decide_eq_false_iff_not, beq_eq_false_iff_ne, bne_eq_false_iff_eq, ne_eq, Decidable.not_not, Int.not_lt, Int.not_le, Bool.not_eq_false', beq_iff_eq, bne_iff_ne, decide_eq_true_eq] at hc2
      refine sw_skip ?_
      refine cut_end (0) (Sub.of_eq (by kernel_rfl)) ?_
      exact ⟨by unfold startS; rw [if_neg (by omega)], hH⟩
    clear hH
    rintro n1 w14 ⟨hn1, hH⟩
    have hn2 : f.sure + n1 ≤ f.b.length := by omega
    refine sw_keep [(0, .pointer (some ⟨xb, 0, none⟩)), (1, .slice Ak ks.length ck), (4, .int .i64 ((i : Nat) : Int)), (5, .pointer (some ⟨b5, 0, none⟩)), (6, .int .i64 ((n1 : Nat) : Int))] (by kernel_rfl) ?_
    refine sw_seq ?_
    refine sw_region ?_  -- R7 ref.go:160
    refine gl_ops 1 [(0, .pointer (some ⟨xb, 0, none⟩)), (1, .slice Ak ks.length ck), (4, .int .i64 ((i : Nat) : Int)), (5, .pointer (some ⟨b5, 0, none⟩)), (6, .int .i64 ((n1 : Nat) : Int)), (39, .pointer (some ⟨b5, 2, none⟩))] (by kernel_rfl) ?_
    refine gl_q rfl rfl rfl (rd_loadK 3 (by kernel_rfl) hH rfl rfl rfl) ?_
    refine gl_ops 2 [(0, .pointer (some ⟨xb, 0, none⟩)), (1, .slice Ak ks.length ck), (4, .int .i64 ((i : Nat) : Int)), (5, .pointer (some ⟨b5, 0, none⟩)), (42, .int .i64 (IntKind.i64.wrap (((f.sure : Nat) : Int) + ((n1 : Nat) : Int))))] (by kernel_rfl) ?_
    refine gl_cv 42 (.int .i64 ((f.sure + n1 : Nat) : Int)) (cv_i64 (by omega)) rfl ?_
    refine gl_ops 1 [(0, .pointer (some ⟨xb, 0, none⟩)), (1, .slice Ak ks.length ck), (4, .int .i64 ((i : Nat) : Int)), (5, .pointer (some ⟨b5, 0, none⟩)), (42, .int .i64 ((f.sure + n1 : Nat) : Int)), (43, .pointer (some ⟨b5, 2, none⟩))] (by kernel_rfl) ?_
    refine gl_st (st_storeK (v := .int .i64 ((f.sure + n1 : Nat) : Int)) 3 rfl rfl rfl hH rfl rfl rfl (by kernel_rfl) rfl (by simp) ?_)
    clear hH; intro w15 hH
    refine gl_done rfl ?_
    refine sw_next ?_
    refine sw_seq ?_
    refine sw_region ?_  -- R8 ref.go:161
    refine gl_st (st_buildS0 (e := 5) (m := 1) rfl rfl rfl (by kernel_rfl) (by kernel_rfl) hH ?_)
    clear hH; intro b16 w17 hH
    refine gl_ops 1 [(0, .pointer (some ⟨xb, 0, none⟩)), (1, .slice Ak ks.length ck), (4, .int .i64 ((i : Nat) : Int)), (5, .pointer (some ⟨b5, 0, none⟩)), (44, .slice (some ⟨b16, 0, none⟩) 0 0), (45, .pointer (some ⟨b5, 1, none⟩))] (by kernel_rfl) ?_
    refine gl_q rfl rfl rfl (rd_loadK 3 (by kernel_rfl) hH rfl rfl rfl) ?_
    refine gl_ops 1 [(0, .pointer (some ⟨xb, 0, none⟩)), (1, .slice Ak ks.length ck), (4, .int .i64 ((i : Nat) : Int)), (5, .pointer (some ⟨b5, 0, none⟩)), (44, .slice (some ⟨b16, 0, none⟩) 0 0), (46, .slice Af f.b.length cf), (47, .pointer (some ⟨b5, 2, none⟩))] (by kernel_rfl) ?_
    refine gl_q rfl rfl rfl (rd_loadK 3 (by kernel_rfl) hH rfl rfl rfl) ?_
    refine gl_q rfl rfl rfl (rd_cut (e := 5) (m := 1) (by kernel_rfl) (by kernel_rfl) rfl (.inl ⟨rfl, rfl⟩) (.inr ⟨_, _, rfl, rfl⟩) (cut_f (show f.sure + n1 ≤ f.b.length by omega) (by omega))) ?_
    refine gl_st (st_appH (e := 5) (zv := .int .u8 0) (m := 1) (bytes := 1) 4 rfl rfl rfl (by kernel_rfl) (by kernel_rfl) rfl (by decide) hH rfl rfl rfl (rb_front (filRs_rb hH 2 rfl hq) (show f.sure + n1 ≤ f.b.length by omega)).row (bv_one _) (by rw [List.length_take]; unfold maxLen; omega) (by rw [List.length_take]; omega) ?_)
    clear hH; intro v18 w19 hH
    replace hH := hH.row_eq 4 (l' := (f.b.take (f.sure + n1)).length) (xs' := bv (f.b.take (f.sure + n1))) rfl (Nat.zero_add _) (List.nil_append _)
    obtain ⟨A20, c21, rfl, hl22, hm23⟩ := hH.row_form 4 rfl
    refine gl_ops 1 [(0, .pointer (some ⟨xb, 0, none⟩)), (1, .slice Ak ks.length ck), (4, .int .i64 ((i : Nat) : Int)), (5, .pointer (some ⟨b5, 0, none⟩)), (50, .slice A20 ((f.b.take (f.sure + n1)).length) c21), (51, .pointer (some ⟨b5, 1, none⟩))] (by kernel_rfl) ?_
    refine gl_st (st_storeK (v := .slice A20 ((f.b.take (f.sure + n1)).length) c21) 3 rfl rfl rfl hH rfl rfl rfl (by kernel_rfl) rfl (by simp) ?_)
    clear hH; intro w24 hH
    refine gl_done rfl ?_
    refine sw_next ?_
    refine sw_draw (by kernel_rfl) (fun w_ => Hp w w_ (off w (blksOf (ownR xb (.slice Ar L.length cr) D part L))) (blksOf (ownR xb (.slice Ar L.length cr) D part L)) [.blk xb 87 [.slice Ar L.length cr, .bool D.off, .int .i64 (actsI D.ar), .int .i64 part], filRs L2, .blk b5 89 [.string (bs f.name), .slice A20 ((f.b.take (f.sure + n1)).length) c21, .int .i64 ((f.sure + n1 : Nat) : Int)], .row (.slice A20 ((f.b.take (f.sure + n1)).length) c21) 5 1 ((f.b.take (f.sure + n1)).length) (bv (f.b.take (f.sure + n1)))]) ?_  -- R9 ref.go:162
    replace hH := hH.drew
    generalize { w24 with drawn := w24.drawn + 1 } = w25 at hH ⊢
    have hS9 := hH.sublist (.cons_cons _ (.cons _ (.cons_cons _ (.cons_cons _ (.cons_cons _ (List.nil_sublist _))))))
    refine gd_pure 0 rfl (by kernel_rfl) (PQ.bk (PQ.th (PQ.th (PQ.bk (PQ.th PQ.body))))) hS9 rfl rfl (.pointer (some ⟨xb, 0, none⟩)) (by kernel_rfl) ?_
    refine gd_pure 1 rfl (by kernel_rfl) (PQ.bk (PQ.th (PQ.th (PQ.bk (PQ.th PQ.body))))) hS9 rfl rfl (.pointer (some ⟨xb, 0, none⟩)) (by kernel_rfl) ?_
    refine gd_pure 2 rfl (by kernel_rfl) (PQ.bk (PQ.th (PQ.th (PQ.bk (PQ.th PQ.body))))) hS9 rfl rfl (.pointer (some ⟨xb, 0, none⟩)) (by kernel_rfl) ?_
    refine gd_keep [(0, .pointer (some ⟨xb, 0, none⟩)), (1, .slice Ak ks.length ck), (4, .int .i64 ((i : Nat) : Int)), (5, .pointer (some ⟨b5, 0, none⟩)), (54, .pointer (some ⟨xb, 0, none⟩))] (by kernel_rfl) ?_
    refine gd_q 3 rfl (by kernel_rfl) (PQ.bk (PQ.th (PQ.th (PQ.bk (PQ.th PQ.body))))) hS9 rfl rfl (fun w_ hS => (rd_loadK 0 (by kernel_rfl) hS rfl rfl rfl)) ?_
    refine gd_pure 4 rfl (by kernel_rfl) (PQ.bk (PQ.th (PQ.th (PQ.bk (PQ.th PQ.body))))) hS9 rfl rfl (.int .i64 ((i : Nat) : Int)) (by kernel_rfl) ?_
    refine gd_q 5 rfl (by kernel_rfl) (PQ.bk (PQ.th (PQ.th (PQ.bk (PQ.th PQ.body))))) hS9 rfl rfl (fun w_ hS => (rd_loadKA (m := 3) 2 (by kernel_rfl) hS rfl rfl (by kernel_rfl) [.string (bs f.name), .slice A20 ((f.b.take (f.sure + n1)).length) c21, .int .i64 ((f.sure + n1 : Nat) : Int)] rfl rfl)) ?_
    refine gd_keep [(0, .pointer (some ⟨xb, 0, none⟩)), (1, .slice Ak ks.length ck), (4, .int .i64 ((i : Nat) : Int)), (55, .slice Ar L.length cr), (56, .int .i64 ((i : Nat) : Int)), (57, .agg #[.string (bs f.name), .slice A20 ((f.b.take (f.sure + n1)).length) c21, .int .i64 ((f.sure + n1 : Nat) : Int)])] (by kernel_rfl) ?_
    obtain ⟨b27, hb26, hi28⟩ := hH.row_idx 1 rfl i (by omega)
    refine gd_q 6 rfl (by kernel_rfl) (PQ.bk (PQ.th (PQ.th (PQ.bk (PQ.th PQ.body))))) hS9 rfl rfl (fun w_ hS => (rd_idx (e := 89) (m := 3) (by kernel_rfl) (by kernel_rfl) rfl rfl hi28)) ?_
    refine gd_st 7 (by kernel_rfl) (st_storeOA (vs := [.string (bs f.name), .slice A20 ((f.b.take (f.sure + n1)).length) c21, .int .i64 ((f.sure + n1 : Nat) : Int)]) 1 rfl rfl rfl hH rfl rfl rfl (by kernel_rfl) rfl hb26 (by rw [rowC_len filC_len]; show i * 3 + 3 ≤ _; omega) ?_)
    clear hH; intro w29 hH
    replace hH := hH.row_eq 1 (l' := L.length) (xs' := rowC filC (L2.set i (⟨f.name, f.b.take (f.sure + n1), f.sure + n1⟩, Value.slice A20 ((f.b.take (f.sure + n1)).length) c21))) rfl (rfl) (rowC_set filC_len (x := (⟨f.name, f.b.take (f.sure + n1), f.sure + n1⟩, Value.slice A20 ((f.b.take (f.sure + n1)).length) c21)) (by omega))
    replace hS9 := hH.sublist (.cons_cons _ (.cons _ (.cons_cons _ (.cons_cons _ (.cons_cons _ (List.nil_sublist _))))))
    refine ⟨hS9, ?_⟩
    refine gd_keep [(0, .pointer (some ⟨xb, 0, none⟩)), (1, .slice Ak ks.length ck), (4, .int .i64 ((i : Nat) : Int))] (by kernel_rfl) ?_
    refine gd_done (by kernel_rfl) ?_
    refine at_sub [(0, .pointer (some ⟨xb, 0, none⟩)), (1, .slice Ak ks.length ck), (4, .int .i64 ((i : Nat) : Int))] (Sub.of_eq (by kernel_rfl)) ?_
    refine bkN ?_
    refine sw_next ?_
    refine sw_region ?_  -- R2 ref.go:154
    refine gl_ops 2 [(0, .pointer (some ⟨xb, 0, none⟩)), (1, .slice Ak ks.length ck), (15, .int .i64 (IntKind.i64.wrap (((i : Nat) : Int) + 1)))] (by kernel_rfl) ?_
    refine gl_cv 15 (.int .i64 ((i + 1 : Nat) : Int)) (cv_i64 (by omega)) rfl ?_
    refine gl_ops 1 [(0, .pointer (some ⟨xb, 0, none⟩)), (1, .slice Ak ks.length ck), (4, .int .i64 ((i + 1 : Nat) : Int))] (by kernel_rfl) ?_
    refine gl_done rfl ?_
    refine rnd_end (g := (i, L2)) (i + 1, L2.set i (⟨f.name, f.b.take (f.sure + n1), f.sure + n1⟩, (Value.slice A20 ((f.b.take (f.sure + n1)).length) c21))) (by kernel_rfl) ?_ ?_
    replace hH : Hp w w29 _ _ [.blk xb 87 [.slice Ar L.length cr, .bool D.off, .int .i64 (actsI D.ar), .int .i64 part], .row (.slice Ar L.length cr) 89 3 L.length (rowC filC (L2.set i (⟨f.name, f.b.take (f.sure + n1), f.sure + n1⟩, Value.slice A20 ((f.b.take (f.sure + n1)).length) c21))), filRs L2, .blk b5 89 [.string (bs f.name), .slice A20 ((f.b.take (f.sure + n1)).length) c21, .int .i64 ((f.sure + n1 : Nat) : Int)], .row (.slice A20 ((f.b.take (f.sure + n1)).length) c21) 5 1 ((f.b.take (f.sure + n1)).length) (bv (f.b.take (f.sure + n1)))] := hH
    replace hH := hH.pick [4, 2, 0, 1, 3] (by kernel_rfl) (os' := [.row (.slice A20 ((f.b.take (f.sure + n1)).length) c21) 5 1 ((f.b.take (f.sure + n1)).length) (bv (f.b.take (f.sure + n1))), filRs L2, .blk xb 87 [.slice Ar L.length cr, .bool D.off, .int .i64 (actsI D.ar), .int .i64 part], .row (.slice Ar L.length cr) 89 3 L.length (rowC filC (L2.set i (⟨f.name, f.b.take (f.sure + n1), f.sure + n1⟩, Value.slice A20 ((f.b.take (f.sure + n1)).length) c21))), .blk b5 89 [.string (bs f.name), .slice A20 ((f.b.take (f.sure + n1)).length) c21, .int .i64 ((f.sure + n1 : Nat) : Int)]]) (by kernel_rfl)
    replace hH : Hp w w29 _ _ (filR (⟨f.name, f.b.take (f.sure + n1), f.sure + n1⟩, (Value.slice A20 ((f.b.take (f.sure + n1)).length) c21)) :: filRs L2 :: [.blk xb 87 [.slice Ar L.length cr, .bool D.off, .int .i64 (actsI D.ar), .int .i64 part], .row (.slice Ar L.length cr) 89 3 L.length (rowC filC (L2.set i (⟨f.name, f.b.take (f.sure + n1), f.sure + n1⟩, Value.slice A20 ((f.b.take (f.sure + n1)).length) c21))), .blk b5 89 [.string (bs f.name), .slice A20 ((f.b.take (f.sure + n1)).length) c21, .int .i64 ((f.sure + n1 : Nat) : Int)]]) := hH
    replace hH := rs_set (i := i) (by omega) hH
    replace hH : Hp w w29 _ _ [filRs (L2.set i (⟨f.name, f.b.take (f.sure + n1), f.sure + n1⟩, (Value.slice A20 ((f.b.take (f.sure + n1)).length) c21))), .blk xb 87 [.slice Ar L.length cr, .bool D.off, .int .i64 (actsI D.ar), .int .i64 part], .row (.slice Ar L.length cr) 89 3 L.length (rowC filC (L2.set i (⟨f.name, f.b.take (f.sure + n1), f.sure + n1⟩, Value.slice A20 ((f.b.take (f.sure + n1)).length) c21))), .blk b5 89 [.string (bs f.name), .slice A20 ((f.b.take (f.sure + n1)).length) c21, .int .i64 ((f.sure + n1 : Nat) : Int)]] := hH
    replace hH := hH.pick [1, 2, 0, 3] (by kernel_rfl) (os' := [.blk xb 87 [.slice Ar L.length cr, .bool D.off, .int .i64 (actsI D.ar), .int .i64 part], .row (.slice Ar L.length cr) 89 3 L.length (rowC filC (L2.set i (⟨f.name, f.b.take (f.sure + n1), f.sure + n1⟩, Value.slice A20 ((f.b.take (f.sure + n1)).length) c21))), filRs (L2.set i (⟨f.name, f.b.take (f.sure + n1), f.sure + n1⟩, (Value.slice A20 ((f.b.take (f.sure + n1)).length) c21))), .blk b5 89 [.string (bs f.name), .slice A20 ((f.b.take (f.sure + n1)).length) c21, .int .i64 ((f.sure + n1 : Nat) : Int)]]) (by kernel_rfl)
    replace hH := (hH.sublist (.cons_cons _ (.cons_cons _ (.cons_cons _ (List.nil_sublist _)))))
    replace hH : Hp w w29 _ _ [.blk xb 87 [.slice Ar L.length cr, .bool D.off, .int .i64 (actsI D.ar), .int .i64 part], .row (.slice Ar L.length cr) 89 3 L.length (rowC filC (L2.set i (⟨f.name, f.b.take (f.sure + n1), f.sure + n1⟩, Value.slice A20 ((f.b.take (f.sure + n1)).length) c21))), filRs (L2.set i (⟨f.name, f.b.take (f.sure + n1), f.sure + n1⟩, (Value.slice A20 ((f.b.take (f.sure + n1)).length) c21)))] := hH
    · exact ⟨by omega, by rw [List.map_set, hL2, ← partF_next hf]; congr 1; unfold startF1; rw [← hn1], by rw [List.length_set]; exact hlen2, hH⟩
    · show L.length - (i + 1) < L.length - i; omega
  try simp only [decide_eq_false_iff_not, beq_eq_false_iff_ne, bne_eq_false_iff_eq, ne_eq, Decidable.not_not, Int.not_lt, Int.not_le, Bool.not_eq_false', beq_iff_eq, bne_iff_ne, decide_eq_true_eq] at hc1
  refine sw_exit ?_
  refine thX ?_
  refine thX ?_
  refine bkH ?_
  refine sw_next ?_
  refine sw_seq ?_
  refine sw_region ?_  -- R10 ref.go:164
  refine gl_ops 3 [(0, .pointer (some ⟨xb, 0, none⟩)), (61, .pointer (some ⟨xb, 1, none⟩))] (by kernel_rfl) ?_
  refine gl_st (st_storeK (v := .bool false) 0 rfl rfl rfl hH rfl rfl rfl (by kernel_rfl) rfl (by simp) ?_)
  clear hH; intro w30 hH
  refine gl_done rfl ?_
  refine sw_next ?_
  refine sw_region ?_  -- R11 ref.go:165
  refine gl_ops 3 [(64, .pointer (some ⟨xb, 2, none⟩))] (by kernel_rfl) ?_
  refine gl_st (st_storeK (v := .int .i64 (-1)) 0 rfl rfl rfl hH rfl rfl rfl (by kernel_rfl) rfl (by simp) ?_)
  clear hH; intro w31 hH
  refine gl_done rfl ?_
  refine end0 rfl ?_
  replace hH := (hH.sublist (.cons_cons _ (.cons_cons _ (.cons_cons _ (List.nil_sublist _)))))
  replace hH : Hp w w31 _ _ [.blk xb 87 [.slice Ar L.length cr, .bool false, .int .i64 (-1), .int .i64 part], .row (.slice Ar L.length cr) 89 3 L.length (rowC filC L2), filRs L2] := hH
  have h4 : Hp w w31 _ _ (rdkO xb (.slice Ar L.length cr) (startD D ks).off (actsI (startD D ks).ar) part L2 ++ []) := hH.cast (by unfold rdkO lstO rhdO; rw [hlen2]; rfl)
  exact ⟨L2, rfl, by rw [hL2]; exact partF_all (by have := congrArg List.length hF; simp at this; omega), h4.close.turned⟩
theorem RDo0_ct (xb : Nat) (rv : Value) (D : Dsk) (part : Int) (L : FV) (nm : List UInt8) (vp : Value) (p : List UInt8) (n : Int) (M : Nat) (w : World) (hM : Mine w (ownR xb rv D part L)) (hF : L.map (·.1) = D.fs) (hA : ArOk D.ar) (hP : PartOk D.ar part) (hG : Good D.fs M) (hMM : M ≤ 4194304) (hN : L.length ≤ 900000) (hs : nm.length ≤ 140737488355328) (hp : RB (off w (blksOf (ownR xb rv D part L))) vp p) (hpl : p.length ≤ 1048576) :
    Fun Tryd.prog 70 [.pointer (some ⟨xb, 0, none⟩), .int .i64 0, .string (bs nm), vp, .int .i64 n] w fun v w' => RPost xb rv D part L (doD D 0 nm p n) w v w' := by
  obtain ⟨Ar, cr, rfl, hcr1, hcr2⟩ := (Row.of_own (hM.1 _ (List.mem_singleton.2 rfl) (lstO rv L) (by simp [rdkO]))).form
  have hcr3 := hcr2
  simp only [maxLen] at hcr3
  have hV : SlV L := filRs_sl (hM.1 _ (List.mem_singleton.2 rfl) (filRs L) (by simp [rdkO]))
  obtain ⟨Ap, cp, rfl, hp1, hp2⟩ := hp.row.form
  refine fun_of_sw Tryd.func70 rfl 132 rfl rfl ?_
  have hH : Hp w w (off w (blksOf (ownR xb (.slice Ar L.length cr) D part L))) (blksOf (ownR xb (.slice Ar L.length cr) D part L)) (rdkO xb (.slice Ar L.length cr) D.off (actsI D.ar) part L ++ []) := (Hp.start_mine hM).open_
  replace hH : Hp w w _ _ [.blk xb 87 [.slice Ar L.length cr, .bool D.off, .int .i64 (actsI D.ar), .int .i64 part], .row (.slice Ar L.length cr) 89 3 L.length (rowC filC L), filRs L] := hH
  refine sw_seq ?_
  refine sw_region ?_  -- R0 ref.go:94
  refine gl_ops 1 [(0, .pointer (some ⟨xb, 0, none⟩)), (1, .int .i64 0), (2, .string (bs nm)), (3, .slice Ap p.length cp), (4, .int .i64 n)] (by kernel_rfl) ?_
  refine gl_done rfl ?_
  refine sw_next ?_
  refine sw_seq ?_
  refine sw_region ?_  -- R1 ref.go:95
  refine gl_ops 8 [(0, .pointer (some ⟨xb, 0, none⟩)), (1, .int .i64 0), (2, .string (bs nm)), (3, .slice Ap p.length cp), (4, .int .i64 n), (16, .pointer (some ⟨xb, 0, none⟩)), (17, .string (bs nm)), (23, .bool false)] (by kernel_rfl) ?_
  refine gl_st (st_call rfl rfl rfl (by kernel_rfl) rfl (RMay18_ct xb _ L D nm false _ (hH.blk_cell 0 rfl rfl) (hH.blk_cell 0 rfl rfl) (hH.row_reads 1 rfl) hF hs) ?_)
  rintro _ w1 ⟨rfl, hF2⟩
  replace hH := hH.call hF2; clear hF2
  refine gl_ops 1 [(0, .pointer (some ⟨xb, 0, none⟩)), (1, .int .i64 0), (2, .string (bs nm)), (3, .slice Ap p.length cp), (4, .int .i64 n), (11, .int .i64 ((mayE D nm false : Nat) : Int))] (by kernel_rfl) ?_
  refine gl_done rfl ?_
  refine sw_next ?_
  refine sw_seq ?_
  refine sw_seq ?_
  refine sw_region ?_  -- R2 ref.go:96
  refine gl_ops 2 [(0, .pointer (some ⟨xb, 0, none⟩)), (1, .int .i64 0), (2, .string (bs nm)), (3, .slice Ap p.length cp), (4, .int .i64 n), (11, .int .i64 ((mayE D nm false : Nat) : Int)), (26, .bool (((mayE D nm false : Nat) : Int) != (0 : Int)))] (by kernel_rfl) ?_
  refine gl_done rfl ?_
  refine sw_next ?_
  refine sw_cond rfl rfl (fun hc1 => ?_) (fun hc1 => ?_)
  ·
    try simp only [decide_eq_true_eq, beq_iff_eq, bne_iff_ne, ne_eq, Bool.not_eq_true', beq_eq_false_iff_ne, bne_eq_false_iff_eq, decide_eq_false_iff_not, Int.not_lt, Int.not_le] at hc1
    refine sw_seq ?_
    refine sw_region ?_  -- R3 ref.go:97
    refine gl_ops 2 [(10, .int .i64 ((mayE D nm false : Nat) : Int))] (by kernel_rfl) ?_
    refine gl_done rfl ?_
    refine sw_next ?_
    refine sw_ret ?_
    refine thR ?_
    refine ret1 rfl rfl  ?_
    replace hH := (hH.sublist (.cons_cons _ (.cons_cons _ (.cons_cons _ (List.nil_sublist _)))))
    replace hH : Hp w w1 _ _ [.blk xb 87 [.slice Ar L.length cr, .bool D.off, .int .i64 (actsI D.ar), .int .i64 part], .row (.slice Ar L.length cr) 89 3 L.length (rowC filC L), filRs L] := hH
    exact rfin_err (kind := 0) (th := false) hF rfl (by omega) ((hH.close (r := [])).turned)
  try simp only [decide_eq_false_iff_not, beq_eq_false_iff_ne, bne_eq_false_iff_eq, ne_eq, Decidable.not_not, Int.not_lt, Int.not_le, Bool.not_eq_false', beq_iff_eq, bne_iff_ne, decide_eq_true_eq] at hc1
  have hm0 : mayE D nm false = 0 := by omega
  refine sw_skip ?_
  refine sw_next ?_
  refine sw_seq ?_
  refine sw_region ?_  -- R4 ref.go:99
  refine gl_ops 2 [(0, .pointer (some ⟨xb, 0, none⟩)), (1, .int .i64 0), (2, .string (bs nm)), (3, .slice Ap p.length cp), (4, .int .i64 n), (29, .agg #[.string (bs nm), .slice none 0 0, .int .i64 0])] (by kernel_rfl) ?_
  refine gl_st (st_allocH rfl rfl rfl (cs := [.string (bs []), .slice none 0 0, .int .i64 0]) (by kernel_rfl) hH ?_)
  clear hH; intro b3 w4 hH
  refine gl_st (st_storeKA (vs := [.string (bs nm), .slice none 0 0, .int .i64 0]) 3 rfl rfl rfl hH rfl rfl (by kernel_rfl) (by kernel_rfl) rfl (by simp) [.string (bs nm), .slice none 0 0, .int .i64 0] rfl ?_)
  clear hH; intro w5 hH
  refine gl_done rfl ?_
  refine sw_next ?_
  refine sw_seq ?_
  refine sw_region ?_  -- R5 ref.go:100
  refine gl_ops 2 [(0, .pointer (some ⟨xb, 0, none⟩)), (1, .int .i64 0), (2, .string (bs nm)), (3, .slice Ap p.length cp), (4, .int .i64 n), (12, .pointer (some ⟨b3, 0, none⟩)), (30, .pointer (some ⟨xb, 0, none⟩)), (31, .string (bs nm))] (by kernel_rfl) ?_
  refine gl_st (st_call rfl rfl rfl (by kernel_rfl) rfl (RFind_ct xb _ L nm _ (hH.blk_cell 0 rfl rfl) (hH.row_reads 1 rfl)) ?_)
  rintro _ w6 ⟨rfl, hF7⟩
  replace hH := hH.call hF7; clear hF7
  refine gl_ops 1 [(0, .pointer (some ⟨xb, 0, none⟩)), (1, .int .i64 0), (2, .string (bs nm)), (3, .slice Ap p.length cp), (4, .int .i64 n), (12, .pointer (some ⟨b3, 0, none⟩)), (13, .int .i64 (fndZ L nm))] (by kernel_rfl) ?_
  refine gl_done rfl ?_
  refine sw_next ?_
  refine sw_seq ?_
  refine sw_seq ?_
  refine sw_region ?_  -- R6 ref.go:101
  refine gl_ops 2 [(0, .pointer (some ⟨xb, 0, none⟩)), (1, .int .i64 0), (2, .string (bs nm)), (3, .slice Ap p.length cp), (4, .int .i64 n), (12, .pointer (some ⟨b3, 0, none⟩)), (13, .int .i64 (fndZ L nm)), (34, .bool (decide ((fndZ L nm) ≥ (0 : Int))))] (by kernel_rfl) ?_
  refine gl_done rfl ?_
  refine sw_next ?_
  refine sw_cond rfl rfl (fun hc2 => ?_) (fun hc2 => ?_)
  ·
    try simp only [decide_eq_true_eq, beq_iff_eq, bne_iff_ne, ne_eq, Bool.not_eq_true', beq_eq_false_iff_ne, bne_eq_false_iff_eq, decide_eq_false_iff_not, Int.not_lt, Int.not_le] at hc2
    have hlt : fndI L nm < L.length := by refine Classical.byContradiction fun h9 => ?_; unfold fndZ at hc2; rw [if_neg h9] at hc2; omega
    obtain ⟨b, sr, fv, hq, hold, hmem⟩ := rdk_find hF hlt
    obtain ⟨Af, cf, rfl, hf1, hf2⟩ := (filRs_rb3 hH 2 rfl hq).row.form
    have hbM := hG.short _ hmem
    have hsr := hG.sure _ hmem
    simp only at hbM hsr
    refine sw_cv 13 (.int .i64 ((fndI L nm : Nat) : Int)) (by unfold fndZ; rw [if_pos hlt]) rfl ?_
    refine sw_region ?_  -- R7 ref.go:102
    refine gl_ops 3 [(0, .pointer (some ⟨xb, 0, none⟩)), (1, .int .i64 0), (2, .string (bs nm)), (3, .slice Ap p.length cp), (4, .int .i64 n), (12, .pointer (some ⟨b3, 0, none⟩)), (13, .int .i64 ((fndI L nm : Nat) : Int)), (37, .pointer (some ⟨xb, 0, none⟩))] (by kernel_rfl) ?_
    refine gl_q rfl rfl rfl (rd_loadK 0 (by kernel_rfl) hH rfl rfl rfl) ?_
    obtain ⟨b9, hb8, hi10⟩ := hH.row_idx 1 rfl (fndI L nm) (by omega)
    refine gl_ops 1 [(0, .pointer (some ⟨xb, 0, none⟩)), (1, .int .i64 0), (2, .string (bs nm)), (3, .slice Ap p.length cp), (4, .int .i64 n), (12, .pointer (some ⟨b3, 0, none⟩)), (38, .slice Ar L.length cr), (39, .int .i64 ((fndI L nm : Nat) : Int))] (by kernel_rfl) ?_
    refine gl_q rfl rfl rfl (rd_idx (e := 89) (m := 3) (by kernel_rfl) (by kernel_rfl) rfl rfl hi10) ?_
    refine gl_q rfl rfl rfl (rd_loadOA (q := 3) 1 (by kernel_rfl) hH rfl rfl hb8 (by kernel_rfl) [.string (bs nm), .slice Af b.length cf, .int .i64 ((sr : Nat) : Int)] rfl (rowC_allO filC_len hq _ rfl)) ?_
    refine gl_st (st_storeKA (vs := [.string (bs nm), .slice Af b.length cf, .int .i64 ((sr : Nat) : Int)]) 3 rfl rfl rfl hH rfl rfl (by kernel_rfl) (by kernel_rfl) rfl (by simp) [.string (bs nm), .slice Af b.length cf, .int .i64 ((sr : Nat) : Int)] rfl ?_)
    clear hH; intro w11 hH
    refine gl_done rfl ?_
    refine sw_next ?_
    refine sw_seq ?_
    refine sw_seq ?_
    refine sw_region ?_  -- R8 ref.go:104
    refine gl_ops 13 [(0, .pointer (some ⟨xb, 0, none⟩)), (1, .int .i64 0), (2, .string (bs nm)), (3, .slice Ap p.length cp), (4, .int .i64 n), (12, .pointer (some ⟨b3, 0, none⟩)), (54, .bool false)] (by kernel_rfl) ?_
    refine gl_done rfl ?_
    refine sw_next ?_
    refine sw_false rfl rfl ?_
    refine sw_skip ?_
    refine sw_next ?_
    refine sw_seq ?_
    refine sw_region ?_  -- R10 ref.go:107
    refine gl_ops 3 [(0, .pointer (some ⟨xb, 0, none⟩)), (1, .int .i64 0), (2, .string (bs nm)), (3, .slice Ap p.length cp), (4, .int .i64 n), (12, .pointer (some ⟨b3, 0, none⟩)), (57, .pointer (some ⟨xb, 3, none⟩))] (by kernel_rfl) ?_
    refine gl_q rfl rfl rfl (rd_loadK 0 (by kernel_rfl) hH rfl rfl rfl) ?_
    refine gl_ops 1 [(0, .pointer (some ⟨xb, 0, none⟩)), (1, .int .i64 0), (2, .string (bs nm)), (3, .slice Ap p.length cp), (4, .int .i64 n), (12, .pointer (some ⟨b3, 0, none⟩)), (14, .int .i64 part)] (by kernel_rfl) ?_
    refine gl_done rfl ?_
    refine sw_next ?_
    refine sw_seq ?_
    refine sw_region ?_  -- R11 ref.go:108
    obtain ⟨D2, cu, pt, hcut⟩ : ∃ D2 cu pt, cutD D = (D2, cu, pt) := ⟨_, _, _, rfl⟩
    refine gl_ops 1 [(0, .pointer (some ⟨xb, 0, none⟩)), (1, .int .i64 0), (2, .string (bs nm)), (3, .slice Ap p.length cp), (4, .int .i64 n), (12, .pointer (some ⟨b3, 0, none⟩)), (14, .int .i64 part), (59, .pointer (some ⟨xb, 0, none⟩))] (by kernel_rfl) ?_
    replace hH : Hp w w11 _ _ ([.blk xb 87 [.slice Ar L.length cr, .bool D.off, .int .i64 (actsI D.ar), .int .i64 part]] ++ [.row (.slice Ar L.length cr) 89 3 L.length (rowC filC L), filRs L, .blk b3 89 [.string (bs nm), .slice Af b.length cf, .int .i64 ((sr : Nat) : Int)]]) := hH
    refine gl_st (st_call rfl rfl rfl (by kernel_rfl) rfl (RAct_ct xb _ D D2 cu pt part _ hcut hA hH.mine) ?_)
    rintro _ w12 ⟨rfl, hF13⟩
    replace hH := hH.turns hF13; clear hF13
    replace hH : Hp w w12 _ _ [.row (.slice Ar L.length cr) 89 3 L.length (rowC filC L), filRs L, .blk b3 89 [.string (bs nm), .slice Af b.length cf, .int .i64 ((sr : Nat) : Int)], .blk xb 87 [.slice Ar L.length cr, .bool D2.off, .int .i64 (actsI D2.ar), .int .i64 part]] := hH
    refine gl_ops 1 [(0, .pointer (some ⟨xb, 0, none⟩)), (1, .int .i64 0), (2, .string (bs nm)), (3, .slice Ap p.length cp), (4, .int .i64 n), (12, .pointer (some ⟨b3, 0, none⟩)), (14, .int .i64 part), (15, .bool cu)] (by kernel_rfl) ?_
    refine gl_done rfl ?_
    refine sw_next ?_
    refine sw_seq ?_
    refine sw_seq ?_
    refine sw_region ?_  -- R12 ref.go:109
    refine gl_ops 2 [(0, .pointer (some ⟨xb, 0, none⟩)), (1, .int .i64 0), (2, .string (bs nm)), (3, .slice Ap p.length cp), (4, .int .i64 n), (12, .pointer (some ⟨b3, 0, none⟩)), (14, .int .i64 part), (15, .bool cu), (62, .bool cu)] (by kernel_rfl) ?_
    refine gl_split 62 (b := cu) rfl (fun hg4 => ?_) (fun hg4 => ?_)
    ·
      refine gl_cv 15 (.bool true) (by rw [hg4]) rfl ?_
      try simp only [decide_eq_true_eq, beq_iff_eq, bne_iff_ne, ne_eq, Bool.not_eq_true', beq_eq_false_iff_ne, bne_eq_false_iff_eq, decide_eq_false_iff_not, Int.not_lt, Int.not_le] at hg4
      subst hg4
      have hpt := cut_part hcut hP rfl
      refine gl_ops 3 [(0, .pointer (some ⟨xb, 0, none⟩)), (1, .int .i64 0), (2, .string (bs nm)), (3, .slice Ap p.length cp), (4, .int .i64 n), (12, .pointer (some ⟨b3, 0, none⟩)), (14, .int .i64 part), (15, .bool true), (65, .bool true)] (by kernel_rfl) ?_
      refine gl_done rfl ?_
      refine sw_next ?_
      refine sw_true rfl rfl ?_
      refine sw_region ?_  -- R13 ref.go:110
      refine gl_ops 3 [(0, .pointer (some ⟨xb, 0, none⟩)), (1, .int .i64 0), (2, .string (bs nm)), (4, .int .i64 n), (12, .pointer (some ⟨b3, 0, none⟩)), (14, .int .i64 part), (15, .bool true), (66, .slice Ap p.length cp), (67, .int .i64 part), (68, .slice Ap p.length cp)] (by kernel_rfl) ?_
      refine gl_q rfl rfl rfl (rd_len (e := 5) (by kernel_rfl) rfl) ?_
      refine gl_ops 1 [(0, .pointer (some ⟨xb, 0, none⟩)), (1, .int .i64 0), (2, .string (bs nm)), (4, .int .i64 n), (12, .pointer (some ⟨b3, 0, none⟩)), (14, .int .i64 part), (15, .bool true), (66, .slice Ap p.length cp), (67, .int .i64 part), (70, .int .i64 (IntKind.i64.wrap (((p.length : Nat) : Int) + 1)))] (by kernel_rfl) ?_
      refine gl_cv 70 (.int .i64 ((p.length + 1 : Nat) : Int)) (cv_i64 (by omega)) rfl ?_
      refine gl_st (st_call rfl rfl rfl (by kernel_rfl) rfl (RMod_ct part (p.length + 1) _ (by omega) (by omega)) ?_)
      rintro _ w14 ⟨rfl, hF15⟩
      replace hH := hH.call hF15; clear hF15
      have hmod := modI_lt part (show 0 < p.length + 1 by omega)
      obtain ⟨A16, hk17, hv18⟩ := hp.row.cut (by decide) 0 (modI part (p.length + 1)) (by omega) (by omega)
      refine gl_q rfl rfl rfl (rd_cut (e := 5) (m := 1) (by kernel_rfl) (by kernel_rfl) rfl (.inl ⟨rfl, rfl⟩) (.inr ⟨_, _, rfl, rfl⟩) hk17) ?_
      have hr19 := RB.head hv18 (by omega)
      refine gl_ops 1 [(0, .pointer (some ⟨xb, 0, none⟩)), (1, .int .i64 0), (2, .string (bs nm)), (3, .slice A16 ((modI part (p.length + 1)) - 0) (cp - 0)), (4, .int .i64 n), (12, .pointer (some ⟨b3, 0, none⟩)), (14, .int .i64 part), (15, .bool true)] (by kernel_rfl) ?_
      refine gl_done rfl ?_
      refine sw_next ?_
      refine sw_seq ?_
      refine sw_seq ?_
      refine sw_region ?_  -- R14 ref.go:112
      refine gl_ops 11 [(0, .pointer (some ⟨xb, 0, none⟩)), (1, .int .i64 0), (2, .string (bs nm)), (3, .slice A16 ((modI part (p.length + 1)) - 0) (cp - 0)), (4, .int .i64 n), (12, .pointer (some ⟨b3, 0, none⟩)), (15, .bool true), (83, .bool true)] (by kernel_rfl) ?_
      refine gl_done rfl ?_
      refine sw_next ?_
      refine sw_true rfl rfl ?_
      refine sw_seq ?_
      refine sw_seq ?_
      refine sw_region ?_  -- R15 ref.go:113
      refine gl_ops 1 [(0, .pointer (some ⟨xb, 0, none⟩)), (1, .int .i64 0), (2, .string (bs nm)), (3, .slice A16 ((modI part (p.length + 1)) - 0) (cp - 0)), (4, .int .i64 n), (12, .pointer (some ⟨b3, 0, none⟩)), (15, .bool true), (84, .int .i64 0)] (by kernel_rfl) ?_
      refine gl_done rfl ?_
      refine sw_next ?_
      refine sw_block ?_
      refine sw_seq ?_
      refine sw_region ?_  -- R16 ref.go:114
      refine gl_ops 2 [(0, .pointer (some ⟨xb, 0, none⟩)), (1, .int .i64 0), (2, .string (bs nm)), (3, .slice A16 ((modI part (p.length + 1)) - 0) (cp - 0)), (4, .int .i64 n), (12, .pointer (some ⟨b3, 0, none⟩)), (15, .bool true), (84, .int .i64 0), (85, .bool true)] (by kernel_rfl) ?_
      refine gl_done rfl ?_
      refine sw_next ?_
      refine sw_true rfl rfl ?_
      refine sw_region ?_  -- R17 ref.go:115
      refine gl_st (st_buildS0 (e := 5) (m := 1) rfl rfl rfl (by kernel_rfl) (by kernel_rfl) hH ?_)
      clear hH; intro b20 w21 hH
      refine gl_ops 1 [(0, .pointer (some ⟨xb, 0, none⟩)), (1, .int .i64 0), (2, .string (bs nm)), (3, .slice A16 ((modI part (p.length + 1)) - 0) (cp - 0)), (12, .pointer (some ⟨b3, 0, none⟩)), (15, .bool true), (87, .slice (some ⟨b20, 0, none⟩) 0 0), (88, .pointer (some ⟨b3, 1, none⟩))] (by kernel_rfl) ?_
      refine gl_q rfl rfl rfl (rd_loadK 2 (by kernel_rfl) hH rfl rfl rfl) ?_
      refine gl_st (st_appH (e := 5) (zv := .int .u8 0) (m := 1) (bytes := 1) 4 rfl rfl rfl (by kernel_rfl) (by kernel_rfl) rfl (by decide) hH rfl rfl rfl (filRs_rb3 hH 1 rfl hq).row (bv_one _) (by unfold maxLen; omega) (by omega) ?_)
      clear hH; intro v22 w23 hH
      replace hH := hH.row_eq 4 (l' := b.length) (xs' := bv b) rfl (Nat.zero_add _) (List.nil_append _)
      obtain ⟨A24, c25, rfl, hl26, hm27⟩ := hH.row_form 4 rfl
      refine gl_ops 1 [(0, .pointer (some ⟨xb, 0, none⟩)), (1, .int .i64 0), (2, .string (bs nm)), (12, .pointer (some ⟨b3, 0, none⟩)), (15, .bool true), (90, .slice A24 b.length c25), (91, .slice A16 ((modI part (p.length + 1)) - 0) (cp - 0))] (by kernel_rfl) ?_
      refine gl_st (st_appH (e := 5) (zv := .int .u8 0) (m := 1) (bytes := 1) 4 rfl rfl rfl (by kernel_rfl) (by kernel_rfl) rfl (by decide) hH rfl rfl rfl (hr19.row.mono hH.zin) (bv_one _) (by (try simp only [List.length_append, List.length_take, List.length_nil]); unfold maxLen; omega) (by (try simp only [List.length_append, List.length_take, List.length_nil]); omega) ?_)
      clear hH; intro v28 w29 hH
      replace hH := hH.row_eq 4 (l' := (b ++ (p.take (modI part (p.length + 1)))).length) (xs' := bv (b ++ (p.take (modI part (p.length + 1))))) rfl (by simp only [List.length_append, List.length_cons, List.length_nil] <;> omega) ((bv_append _ _).symm)
      obtain ⟨A30, c31, rfl, hl32, hm33⟩ := hH.row_form 4 rfl
      refine gl_ops 1 [(0, .pointer (some ⟨xb, 0, none⟩)), (1, .int .i64 0), (2, .string (bs nm)), (12, .pointer (some ⟨b3, 0, none⟩)), (15, .bool true), (92, .slice A30 ((b ++ (p.take (modI part (p.length + 1)))).length) c31), (93, .pointer (some ⟨b3, 1, none⟩))] (by kernel_rfl) ?_
      refine gl_st (st_storeK (v := .slice A30 ((b ++ (p.take (modI part (p.length + 1)))).length) c31) 2 rfl rfl rfl hH rfl rfl rfl (by kernel_rfl) rfl (by simp) ?_)
      clear hH; intro w34 hH
      refine gl_done rfl ?_
      refine bkN ?_
      refine sw_next ?_
      refine sw_seq ?_
      refine sw_region ?_  -- R26 ref.go:125
      refine gl_ops 2 [(0, .pointer (some ⟨xb, 0, none⟩)), (2, .string (bs nm)), (12, .pointer (some ⟨b3, 0, none⟩)), (15, .bool true), (124, .bool false)] (by kernel_rfl) ?_
      refine gl_done rfl ?_
      refine sw_next ?_
      refine sw_false rfl rfl ?_
      refine sw_region ?_  -- R28 ref.go:128
      refine gl_ops 1 [(12, .pointer (some ⟨b3, 0, none⟩)), (15, .bool true), (128, .pointer (some ⟨xb, 0, none⟩))] (by kernel_rfl) ?_
      refine gl_q rfl rfl rfl (rd_loadKA (m := 3) 2 (by kernel_rfl) hH rfl rfl (by kernel_rfl) [.string (bs nm), .slice A30 ((b ++ (p.take (modI part (p.length + 1)))).length) c31, .int .i64 ((sr : Nat) : Int)] rfl rfl) ?_
      replace hH : Hp w w34 _ _ [.row (.slice Ar L.length cr) 89 3 L.length (rowC filC L), filRs L, .blk b3 89 [.string (bs nm), .slice A30 ((b ++ (p.take (modI part (p.length + 1)))).length) c31, .int .i64 ((sr : Nat) : Int)], .blk xb 87 [.slice Ar L.length cr, .bool D2.off, .int .i64 (actsI D2.ar), .int .i64 part], .row (.slice A30 ((b ++ (p.take (modI part (p.length + 1)))).length) c31) 5 1 ((b ++ (p.take (modI part (p.length + 1)))).length) (bv (b ++ (p.take (modI part (p.length + 1)))))] := hH
      replace hH := hH.pick [3, 0, 1, 2, 4] (by kernel_rfl) (os' := [.blk xb 87 [.slice Ar L.length cr, .bool D2.off, .int .i64 (actsI D2.ar), .int .i64 part], .row (.slice Ar L.length cr) 89 3 L.length (rowC filC L), filRs L, .blk b3 89 [.string (bs nm), .slice A30 ((b ++ (p.take (modI part (p.length + 1)))).length) c31, .int .i64 ((sr : Nat) : Int)], .row (.slice A30 ((b ++ (p.take (modI part (p.length + 1)))).length) c31) 5 1 ((b ++ (p.take (modI part (p.length + 1)))).length) (bv (b ++ (p.take (modI part (p.length + 1)))))]) (by kernel_rfl)
      replace hH : Hp w w34 _ _ ([.blk xb 87 [.slice Ar L.length cr, .bool D2.off, .int .i64 (actsI D2.ar), .int .i64 part], .row (.slice Ar L.length cr) 89 3 L.length (rowC filC L)] ++ [filRs L, .blk b3 89 [.string (bs nm), .slice A30 ((b ++ (p.take (modI part (p.length + 1)))).length) c31, .int .i64 ((sr : Nat) : Int)], .row (.slice A30 ((b ++ (p.take (modI part (p.length + 1)))).length) c31) 5 1 ((b ++ (p.take (modI part (p.length + 1)))).length) (bv (b ++ (p.take (modI part (p.length + 1)))))]) := hH
      refine gl_st (st_call rfl rfl rfl (by kernel_rfl) rfl (RSet_ct xb _ L (⟨nm, (b ++ (p.take (modI part (p.length + 1)))), sr⟩, Value.slice A30 ((b ++ (p.take (modI part (p.length + 1)))).length) c31) _ _ _ _ hH.mine ⟨_, _, _, rfl⟩ hV (by omega)) ?_)
      rintro _ w35 ⟨rv2, rfl, hF36⟩
      replace hH := hH.turns hF36; clear hF36
      replace hH : Hp w w35 _ _ [filRs L, .blk b3 89 [.string (bs nm), .slice A30 ((b ++ (p.take (modI part (p.length + 1)))).length) c31, .int .i64 ((sr : Nat) : Int)], .row (.slice A30 ((b ++ (p.take (modI part (p.length + 1)))).length) c31) 5 1 ((b ++ (p.take (modI part (p.length + 1)))).length) (bv (b ++ (p.take (modI part (p.length + 1))))), .blk xb 87 [rv2, .bool D2.off, .int .i64 (actsI D2.ar), .int .i64 part], lstO rv2 (setL L (⟨nm, (b ++ (p.take (modI part (p.length + 1)))), sr⟩, Value.slice A30 ((b ++ (p.take (modI part (p.length + 1)))).length) c31))] := hH
      refine gl_done rfl ?_
      refine sw_next ?_
      refine sw_seq ?_
      refine sw_seq ?_
      refine sw_region ?_  -- R29 ref.go:131
      refine gl_ops 1 [(131, .bool true)] (by kernel_rfl) ?_
      refine gl_done rfl ?_
      refine sw_next ?_
      refine sw_true rfl rfl ?_
      refine sw_seq ?_
      refine sw_region ?_  -- R30 ref.go:132
      refine gl_ops 1 [(10, .int .i64 80)] (by kernel_rfl) ?_
      refine gl_done rfl ?_
      refine sw_next ?_
      refine sw_ret ?_
      refine thR ?_
      refine ret1 rfl rfl  ?_
      replace hH : Hp w w35 _ _ [filRs L, .blk b3 89 [.string (bs nm), .slice A30 ((b ++ (p.take (modI part (p.length + 1)))).length) c31, .int .i64 ((sr : Nat) : Int)], .row (.slice A30 ((b ++ (p.take (modI part (p.length + 1)))).length) c31) 5 1 ((b ++ (p.take (modI part (p.length + 1)))).length) (bv (b ++ (p.take (modI part (p.length + 1))))), .blk xb 87 [rv2, .bool D2.off, .int .i64 (actsI D2.ar), .int .i64 part], lstO rv2 (setL L (⟨nm, (b ++ (p.take (modI part (p.length + 1)))), sr⟩, Value.slice A30 ((b ++ (p.take (modI part (p.length + 1)))).length) c31))] := hH
      replace hH := hH.pick [2, 0, 1, 3, 4] (by kernel_rfl) (os' := [.row (.slice A30 ((b ++ (p.take (modI part (p.length + 1)))).length) c31) 5 1 ((b ++ (p.take (modI part (p.length + 1)))).length) (bv (b ++ (p.take (modI part (p.length + 1))))), filRs L, .blk b3 89 [.string (bs nm), .slice A30 ((b ++ (p.take (modI part (p.length + 1)))).length) c31, .int .i64 ((sr : Nat) : Int)], .blk xb 87 [rv2, .bool D2.off, .int .i64 (actsI D2.ar), .int .i64 part], lstO rv2 (setL L (⟨nm, (b ++ (p.take (modI part (p.length + 1)))), sr⟩, Value.slice A30 ((b ++ (p.take (modI part (p.length + 1)))).length) c31))]) (by kernel_rfl)
      replace hH : Hp w w35 _ _ (filR (⟨nm, (b ++ (p.take (modI part (p.length + 1)))), sr⟩, Value.slice A30 ((b ++ (p.take (modI part (p.length + 1)))).length) c31) :: filRs L :: [.blk b3 89 [.string (bs nm), .slice A30 ((b ++ (p.take (modI part (p.length + 1)))).length) c31, .int .i64 ((sr : Nat) : Int)], .blk xb 87 [rv2, .bool D2.off, .int .i64 (actsI D2.ar), .int .i64 part], lstO rv2 (setL L (⟨nm, (b ++ (p.take (modI part (p.length + 1)))), sr⟩, Value.slice A30 ((b ++ (p.take (modI part (p.length + 1)))).length) c31))]) := hH
      replace hH := rs_setL hH
      replace hH : Hp w w35 _ _ [filRs (setL L (⟨nm, (b ++ (p.take (modI part (p.length + 1)))), sr⟩, Value.slice A30 ((b ++ (p.take (modI part (p.length + 1)))).length) c31)), .blk b3 89 [.string (bs nm), .slice A30 ((b ++ (p.take (modI part (p.length + 1)))).length) c31, .int .i64 ((sr : Nat) : Int)], .blk xb 87 [rv2, .bool D2.off, .int .i64 (actsI D2.ar), .int .i64 part], lstO rv2 (setL L (⟨nm, (b ++ (p.take (modI part (p.length + 1)))), sr⟩, Value.slice A30 ((b ++ (p.take (modI part (p.length + 1)))).length) c31))] := hH
      replace hH := hH.pick [2, 3, 0, 1] (by kernel_rfl) (os' := [.blk xb 87 [rv2, .bool D2.off, .int .i64 (actsI D2.ar), .int .i64 part], lstO rv2 (setL L (⟨nm, (b ++ (p.take (modI part (p.length + 1)))), sr⟩, Value.slice A30 ((b ++ (p.take (modI part (p.length + 1)))).length) c31)), filRs (setL L (⟨nm, (b ++ (p.take (modI part (p.length + 1)))), sr⟩, Value.slice A30 ((b ++ (p.take (modI part (p.length + 1)))).length) c31)), .blk b3 89 [.string (bs nm), .slice A30 ((b ++ (p.take (modI part (p.length + 1)))).length) c31, .int .i64 ((sr : Nat) : Int)]]) (by kernel_rfl)
      replace hH := (hH.sublist (.cons_cons _ (.cons_cons _ (.cons_cons _ (List.nil_sublist _)))))
      replace hH : Hp w w35 _ _ [.blk xb 87 [rv2, .bool D2.off, .int .i64 (actsI D2.ar), .int .i64 part], lstO rv2 (setL L (⟨nm, (b ++ (p.take (modI part (p.length + 1)))), sr⟩, Value.slice A30 ((b ++ (p.take (modI part (p.length + 1)))).length) c31)), filRs (setL L (⟨nm, (b ++ (p.take (modI part (p.length + 1)))), sr⟩, Value.slice A30 ((b ++ (p.take (modI part (p.length + 1)))).length) c31))] := hH
      exact rfin_do (kind := 0) (th := false) (L' := setL L (⟨nm, (b ++ (p.take (modI part (p.length + 1)))), sr⟩, Value.slice A30 ((b ++ (p.take (modI part (p.length + 1)))).length) c31)) (rv' := rv2) (p.take (modI part (p.length + 1))) 80 (by simp) rfl hm0 (fun h => absurd h.1 (by decide)) hcut (.inr (.inl rfl)) (by rw [hpt]; simp) (by rw [setL_fs hF hG.srt]; unfold doF; rw [hold] <;> rfl) ((hH.close (r := [])).turned)
    refine gl_cv 15 (.bool false) (by rw [hg4]) rfl ?_
    try simp only [decide_eq_false_iff_not, beq_eq_false_iff_ne, bne_eq_false_iff_eq, ne_eq, Decidable.not_not, Int.not_lt, Int.not_le, Bool.not_eq_false', beq_iff_eq, bne_iff_ne, decide_eq_true_eq] at hg4
    subst hg4
    refine gl_ops 3 [(0, .pointer (some ⟨xb, 0, none⟩)), (1, .int .i64 0), (2, .string (bs nm)), (3, .slice Ap p.length cp), (4, .int .i64 n), (12, .pointer (some ⟨b3, 0, none⟩)), (14, .int .i64 part), (15, .bool false), (65, .bool false)] (by kernel_rfl) ?_
    refine gl_done rfl ?_
    refine sw_next ?_
    refine sw_false rfl rfl ?_
    refine sw_skip ?_
    refine sw_next ?_
    refine sw_seq ?_
    refine sw_seq ?_
    refine sw_region ?_  -- R14 ref.go:112
    refine gl_ops 11 [(0, .pointer (some ⟨xb, 0, none⟩)), (1, .int .i64 0), (2, .string (bs nm)), (3, .slice Ap p.length cp), (4, .int .i64 n), (12, .pointer (some ⟨b3, 0, none⟩)), (15, .bool false), (83, .bool true)] (by kernel_rfl) ?_
    refine gl_done rfl ?_
    refine sw_next ?_
    refine sw_true rfl rfl ?_
    refine sw_seq ?_
    refine sw_seq ?_
    refine sw_region ?_  -- R15 ref.go:113
    refine gl_ops 1 [(0, .pointer (some ⟨xb, 0, none⟩)), (1, .int .i64 0), (2, .string (bs nm)), (3, .slice Ap p.length cp), (4, .int .i64 n), (12, .pointer (some ⟨b3, 0, none⟩)), (15, .bool false), (84, .int .i64 0)] (by kernel_rfl) ?_
    refine gl_done rfl ?_
    refine sw_next ?_
    refine sw_block ?_
    refine sw_seq ?_
    refine sw_region ?_  -- R16 ref.go:114
    refine gl_ops 2 [(0, .pointer (some ⟨xb, 0, none⟩)), (1, .int .i64 0), (2, .string (bs nm)), (3, .slice Ap p.length cp), (4, .int .i64 n), (12, .pointer (some ⟨b3, 0, none⟩)), (15, .bool false), (84, .int .i64 0), (85, .bool true)] (by kernel_rfl) ?_
    refine gl_done rfl ?_
    refine sw_next ?_
    refine sw_true rfl rfl ?_
    refine sw_region ?_  -- R17 ref.go:115
    refine gl_st (st_buildS0 (e := 5) (m := 1) rfl rfl rfl (by kernel_rfl) (by kernel_rfl) hH ?_)
    clear hH; intro b37 w38 hH
    refine gl_ops 1 [(0, .pointer (some ⟨xb, 0, none⟩)), (1, .int .i64 0), (2, .string (bs nm)), (3, .slice Ap p.length cp), (12, .pointer (some ⟨b3, 0, none⟩)), (15, .bool false), (87, .slice (some ⟨b37, 0, none⟩) 0 0), (88, .pointer (some ⟨b3, 1, none⟩))] (by kernel_rfl) ?_
    refine gl_q rfl rfl rfl (rd_loadK 2 (by kernel_rfl) hH rfl rfl rfl) ?_
    refine gl_st (st_appH (e := 5) (zv := .int .u8 0) (m := 1) (bytes := 1) 4 rfl rfl rfl (by kernel_rfl) (by kernel_rfl) rfl (by decide) hH rfl rfl rfl (filRs_rb3 hH 1 rfl hq).row (bv_one _) (by unfold maxLen; omega) (by omega) ?_)
    clear hH; intro v39 w40 hH
    replace hH := hH.row_eq 4 (l' := b.length) (xs' := bv b) rfl (Nat.zero_add _) (List.nil_append _)
    obtain ⟨A41, c42, rfl, hl43, hm44⟩ := hH.row_form 4 rfl
    refine gl_ops 1 [(0, .pointer (some ⟨xb, 0, none⟩)), (1, .int .i64 0), (2, .string (bs nm)), (12, .pointer (some ⟨b3, 0, none⟩)), (15, .bool false), (90, .slice A41 b.length c42), (91, .slice Ap p.length cp)] (by kernel_rfl) ?_
    refine gl_st (st_appH (e := 5) (zv := .int .u8 0) (m := 1) (bytes := 1) 4 rfl rfl rfl (by kernel_rfl) (by kernel_rfl) rfl (by decide) hH rfl rfl rfl (hp.row.mono hH.zin) (bv_one _) (by (try simp only [List.length_append, List.length_take, List.length_nil]); unfold maxLen; omega) (by (try simp only [List.length_append, List.length_take, List.length_nil]); omega) ?_)
    clear hH; intro v45 w46 hH
    replace hH := hH.row_eq 4 (l' := (b ++ p).length) (xs' := bv (b ++ p)) rfl (by simp only [List.length_append, List.length_cons, List.length_nil] <;> omega) ((bv_append _ _).symm)
    obtain ⟨A47, c48, rfl, hl49, hm50⟩ := hH.row_form 4 rfl
    refine gl_ops 1 [(0, .pointer (some ⟨xb, 0, none⟩)), (1, .int .i64 0), (2, .string (bs nm)), (12, .pointer (some ⟨b3, 0, none⟩)), (15, .bool false), (92, .slice A47 ((b ++ p).length) c48), (93, .pointer (some ⟨b3, 1, none⟩))] (by kernel_rfl) ?_
    refine gl_st (st_storeK (v := .slice A47 ((b ++ p).length) c48) 2 rfl rfl rfl hH rfl rfl rfl (by kernel_rfl) rfl (by simp) ?_)
    clear hH; intro w51 hH
    refine gl_done rfl ?_
    refine bkN ?_
    refine sw_next ?_
    refine sw_seq ?_
    refine sw_region ?_  -- R26 ref.go:125
    refine gl_ops 2 [(0, .pointer (some ⟨xb, 0, none⟩)), (2, .string (bs nm)), (12, .pointer (some ⟨b3, 0, none⟩)), (15, .bool false), (124, .bool false)] (by kernel_rfl) ?_
    refine gl_done rfl ?_
    refine sw_next ?_
    refine sw_false rfl rfl ?_
    refine sw_region ?_  -- R28 ref.go:128
    refine gl_ops 1 [(12, .pointer (some ⟨b3, 0, none⟩)), (15, .bool false), (128, .pointer (some ⟨xb, 0, none⟩))] (by kernel_rfl) ?_
    refine gl_q rfl rfl rfl (rd_loadKA (m := 3) 2 (by kernel_rfl) hH rfl rfl (by kernel_rfl) [.string (bs nm), .slice A47 ((b ++ p).length) c48, .int .i64 ((sr : Nat) : Int)] rfl rfl) ?_
    replace hH : Hp w w51 _ _ [.row (.slice Ar L.length cr) 89 3 L.length (rowC filC L), filRs L, .blk b3 89 [.string (bs nm), .slice A47 ((b ++ p).length) c48, .int .i64 ((sr : Nat) : Int)], .blk xb 87 [.slice Ar L.length cr, .bool D2.off, .int .i64 (actsI D2.ar), .int .i64 part], .row (.slice A47 ((b ++ p).length) c48) 5 1 ((b ++ p).length) (bv (b ++ p))] := hH
    replace hH := hH.pick [3, 0, 1, 2, 4] (by kernel_rfl) (os' := [.blk xb 87 [.slice Ar L.length cr, .bool D2.off, .int .i64 (actsI D2.ar), .int .i64 part], .row (.slice Ar L.length cr) 89 3 L.length (rowC filC L), filRs L, .blk b3 89 [.string (bs nm), .slice A47 ((b ++ p).length) c48, .int .i64 ((sr : Nat) : Int)], .row (.slice A47 ((b ++ p).length) c48) 5 1 ((b ++ p).length) (bv (b ++ p))]) (by kernel_rfl)
    replace hH : Hp w w51 _ _ ([.blk xb 87 [.slice Ar L.length cr, .bool D2.off, .int .i64 (actsI D2.ar), .int .i64 part], .row (.slice Ar L.length cr) 89 3 L.length (rowC filC L)] ++ [filRs L, .blk b3 89 [.string (bs nm), .slice A47 ((b ++ p).length) c48, .int .i64 ((sr : Nat) : Int)], .row (.slice A47 ((b ++ p).length) c48) 5 1 ((b ++ p).length) (bv (b ++ p))]) := hH
    refine gl_st (st_call rfl rfl rfl (by kernel_rfl) rfl (RSet_ct xb _ L (⟨nm, (b ++ p), sr⟩, Value.slice A47 ((b ++ p).length) c48) _ _ _ _ hH.mine ⟨_, _, _, rfl⟩ hV (by omega)) ?_)
    rintro _ w52 ⟨rv2, rfl, hF53⟩
    replace hH := hH.turns hF53; clear hF53
    replace hH : Hp w w52 _ _ [filRs L, .blk b3 89 [.string (bs nm), .slice A47 ((b ++ p).length) c48, .int .i64 ((sr : Nat) : Int)], .row (.slice A47 ((b ++ p).length) c48) 5 1 ((b ++ p).length) (bv (b ++ p)), .blk xb 87 [rv2, .bool D2.off, .int .i64 (actsI D2.ar), .int .i64 part], lstO rv2 (setL L (⟨nm, (b ++ p), sr⟩, Value.slice A47 ((b ++ p).length) c48))] := hH
    refine gl_done rfl ?_
    refine sw_next ?_
    refine sw_seq ?_
    refine sw_seq ?_
    refine sw_region ?_  -- R29 ref.go:131
    refine gl_ops 1 [(131, .bool false)] (by kernel_rfl) ?_
    refine gl_done rfl ?_
    refine sw_next ?_
    refine sw_false rfl rfl ?_
    refine sw_skip ?_
    refine sw_next ?_
    refine sw_seq ?_
    refine sw_region ?_  -- R31 ref.go:134
    refine gl_ops 1 [(10, .int .i64 0)] (by kernel_rfl) ?_
    refine gl_done rfl ?_
    refine sw_next ?_
    refine sw_ret ?_
    refine ret1 rfl rfl  ?_
    replace hH : Hp w w52 _ _ [filRs L, .blk b3 89 [.string (bs nm), .slice A47 ((b ++ p).length) c48, .int .i64 ((sr : Nat) : Int)], .row (.slice A47 ((b ++ p).length) c48) 5 1 ((b ++ p).length) (bv (b ++ p)), .blk xb 87 [rv2, .bool D2.off, .int .i64 (actsI D2.ar), .int .i64 part], lstO rv2 (setL L (⟨nm, (b ++ p), sr⟩, Value.slice A47 ((b ++ p).length) c48))] := hH
    replace hH := hH.pick [2, 0, 1, 3, 4] (by kernel_rfl) (os' := [.row (.slice A47 ((b ++ p).length) c48) 5 1 ((b ++ p).length) (bv (b ++ p)), filRs L, .blk b3 89 [.string (bs nm), .slice A47 ((b ++ p).length) c48, .int .i64 ((sr : Nat) : Int)], .blk xb 87 [rv2, .bool D2.off, .int .i64 (actsI D2.ar), .int .i64 part], lstO rv2 (setL L (⟨nm, (b ++ p), sr⟩, Value.slice A47 ((b ++ p).length) c48))]) (by kernel_rfl)
    replace hH : Hp w w52 _ _ (filR (⟨nm, (b ++ p), sr⟩, Value.slice A47 ((b ++ p).length) c48) :: filRs L :: [.blk b3 89 [.string (bs nm), .slice A47 ((b ++ p).length) c48, .int .i64 ((sr : Nat) : Int)], .blk xb 87 [rv2, .bool D2.off, .int .i64 (actsI D2.ar), .int .i64 part], lstO rv2 (setL L (⟨nm, (b ++ p), sr⟩, Value.slice A47 ((b ++ p).length) c48))]) := hH
    replace hH := rs_setL hH
    replace hH : Hp w w52 _ _ [filRs (setL L (⟨nm, (b ++ p), sr⟩, Value.slice A47 ((b ++ p).length) c48)), .blk b3 89 [.string (bs nm), .slice A47 ((b ++ p).length) c48, .int .i64 ((sr : Nat) : Int)], .blk xb 87 [rv2, .bool D2.off, .int .i64 (actsI D2.ar), .int .i64 part], lstO rv2 (setL L (⟨nm, (b ++ p), sr⟩, Value.slice A47 ((b ++ p).length) c48))] := hH
    replace hH := hH.pick [2, 3, 0, 1] (by kernel_rfl) (os' := [.blk xb 87 [rv2, .bool D2.off, .int .i64 (actsI D2.ar), .int .i64 part], lstO rv2 (setL L (⟨nm, (b ++ p), sr⟩, Value.slice A47 ((b ++ p).length) c48)), filRs (setL L (⟨nm, (b ++ p), sr⟩, Value.slice A47 ((b ++ p).length) c48)), .blk b3 89 [.string (bs nm), .slice A47 ((b ++ p).length) c48, .int .i64 ((sr : Nat) : Int)]]) (by kernel_rfl)
    replace hH := (hH.sublist (.cons_cons _ (.cons_cons _ (.cons_cons _ (List.nil_sublist _)))))
    replace hH : Hp w w52 _ _ [.blk xb 87 [rv2, .bool D2.off, .int .i64 (actsI D2.ar), .int .i64 part], lstO rv2 (setL L (⟨nm, (b ++ p), sr⟩, Value.slice A47 ((b ++ p).length) c48)), filRs (setL L (⟨nm, (b ++ p), sr⟩, Value.slice A47 ((b ++ p).length) c48))] := hH
    exact rfin_do (kind := 0) (th := false) (L' := setL L (⟨nm, (b ++ p), sr⟩, Value.slice A47 ((b ++ p).length) c48)) (rv' := rv2) (p) 0 (by simp) rfl hm0 (fun h => absurd h.1 (by decide)) hcut (.inl rfl) (by simp) (by rw [setL_fs hF hG.srt]; unfold doF; rw [hold] <;> rfl) ((hH.close (r := [])).turned)
  try simp only [decide_eq_false_iff_not, beq_eq_false_iff_ne, bne_eq_false_iff_eq, ne_eq, Decidable.not_not, Int.not_lt, Int.not_le, Bool.not_eq_false', beq_iff_eq, bne_iff_ne, decide_eq_true_eq] at hc2
  have hlt : ¬ fndI L nm < L.length := by intro h9; unfold fndZ at hc2; rw [if_pos h9] at hc2; omega
  have hold := rdk_no hF hlt
  refine sw_skip ?_
  refine sw_next ?_
  refine sw_seq ?_
  refine sw_seq ?_
  refine sw_region ?_  -- R8 ref.go:104
  refine gl_ops 13 [(0, .pointer (some ⟨xb, 0, none⟩)), (1, .int .i64 0), (2, .string (bs nm)), (3, .slice Ap p.length cp), (4, .int .i64 n), (12, .pointer (some ⟨b3, 0, none⟩)), (54, .bool false)] (by kernel_rfl) ?_
  refine gl_done rfl ?_
  refine sw_next ?_
  refine sw_false rfl rfl ?_
  refine sw_skip ?_
  refine sw_next ?_
  refine sw_seq ?_
  refine sw_region ?_  -- R10 ref.go:107
  refine gl_ops 3 [(0, .pointer (some ⟨xb, 0, none⟩)), (1, .int .i64 0), (2, .string (bs nm)), (3, .slice Ap p.length cp), (4, .int .i64 n), (12, .pointer (some ⟨b3, 0, none⟩)), (57, .pointer (some ⟨xb, 3, none⟩))] (by kernel_rfl) ?_
  refine gl_q rfl rfl rfl (rd_loadK 0 (by kernel_rfl) hH rfl rfl rfl) ?_
  refine gl_ops 1 [(0, .pointer (some ⟨xb, 0, none⟩)), (1, .int .i64 0), (2, .string (bs nm)), (3, .slice Ap p.length cp), (4, .int .i64 n), (12, .pointer (some ⟨b3, 0, none⟩)), (14, .int .i64 part)] (by kernel_rfl) ?_
  refine gl_done rfl ?_
  refine sw_next ?_
  refine sw_seq ?_
  refine sw_region ?_  -- R11 ref.go:108
  obtain ⟨D2, cu, pt, hcut⟩ : ∃ D2 cu pt, cutD D = (D2, cu, pt) := ⟨_, _, _, rfl⟩
  refine gl_ops 1 [(0, .pointer (some ⟨xb, 0, none⟩)), (1, .int .i64 0), (2, .string (bs nm)), (3, .slice Ap p.length cp), (4, .int .i64 n), (12, .pointer (some ⟨b3, 0, none⟩)), (14, .int .i64 part), (59, .pointer (some ⟨xb, 0, none⟩))] (by kernel_rfl) ?_
  replace hH : Hp w w6 _ _ ([.blk xb 87 [.slice Ar L.length cr, .bool D.off, .int .i64 (actsI D.ar), .int .i64 part]] ++ [.row (.slice Ar L.length cr) 89 3 L.length (rowC filC L), filRs L, .blk b3 89 [.string (bs nm), .slice none 0 0, .int .i64 0]]) := hH
  refine gl_st (st_call rfl rfl rfl (by kernel_rfl) rfl (RAct_ct xb _ D D2 cu pt part _ hcut hA hH.mine) ?_)
  rintro _ w54 ⟨rfl, hF55⟩
  replace hH := hH.turns hF55; clear hF55
  replace hH : Hp w w54 _ _ [.row (.slice Ar L.length cr) 89 3 L.length (rowC filC L), filRs L, .blk b3 89 [.string (bs nm), .slice none 0 0, .int .i64 0], .blk xb 87 [.slice Ar L.length cr, .bool D2.off, .int .i64 (actsI D2.ar), .int .i64 part]] := hH
  refine gl_ops 1 [(0, .pointer (some ⟨xb, 0, none⟩)), (1, .int .i64 0), (2, .string (bs nm)), (3, .slice Ap p.length cp), (4, .int .i64 n), (12, .pointer (some ⟨b3, 0, none⟩)), (14, .int .i64 part), (15, .bool cu)] (by kernel_rfl) ?_
  refine gl_done rfl ?_
  refine sw_next ?_
  refine sw_seq ?_
  refine sw_seq ?_
  refine sw_region ?_  -- R12 ref.go:109
  refine gl_ops 2 [(0, .pointer (some ⟨xb, 0, none⟩)), (1, .int .i64 0), (2, .string (bs nm)), (3, .slice Ap p.length cp), (4, .int .i64 n), (12, .pointer (some ⟨b3, 0, none⟩)), (14, .int .i64 part), (15, .bool cu), (62, .bool cu)] (by kernel_rfl) ?_
  refine gl_split 62 (b := cu) rfl (fun hg16 => ?_) (fun hg16 => ?_)
  ·
    refine gl_cv 15 (.bool true) (by rw [hg16]) rfl ?_
    try simp only [decide_eq_true_eq, beq_iff_eq, bne_iff_ne, ne_eq, Bool.not_eq_true', beq_eq_false_iff_ne, bne_eq_false_iff_eq, decide_eq_false_iff_not, Int.not_lt, Int.not_le] at hg16
    subst hg16
    have hpt := cut_part hcut hP rfl
    refine gl_ops 3 [(0, .pointer (some ⟨xb, 0, none⟩)), (1, .int .i64 0), (2, .string (bs nm)), (3, .slice Ap p.length cp), (4, .int .i64 n), (12, .pointer (some ⟨b3, 0, none⟩)), (14, .int .i64 part), (15, .bool true), (65, .bool true)] (by kernel_rfl) ?_
    refine gl_done rfl ?_
    refine sw_next ?_
    refine sw_true rfl rfl ?_
    refine sw_region ?_  -- R13 ref.go:110
    refine gl_ops 3 [(0, .pointer (some ⟨xb, 0, none⟩)), (1, .int .i64 0), (2, .string (bs nm)), (4, .int .i64 n), (12, .pointer (some ⟨b3, 0, none⟩)), (14, .int .i64 part), (15, .bool true), (66, .slice Ap p.length cp), (67, .int .i64 part), (68, .slice Ap p.length cp)] (by kernel_rfl) ?_
    refine gl_q rfl rfl rfl (rd_len (e := 5) (by kernel_rfl) rfl) ?_
    refine gl_ops 1 [(0, .pointer (some ⟨xb, 0, none⟩)), (1, .int .i64 0), (2, .string (bs nm)), (4, .int .i64 n), (12, .pointer (some ⟨b3, 0, none⟩)), (14, .int .i64 part), (15, .bool true), (66, .slice Ap p.length cp), (67, .int .i64 part), (70, .int .i64 (IntKind.i64.wrap (((p.length : Nat) : Int) + 1)))] (by kernel_rfl) ?_
    refine gl_cv 70 (.int .i64 ((p.length + 1 : Nat) : Int)) (cv_i64 (by omega)) rfl ?_
    refine gl_st (st_call rfl rfl rfl (by kernel_rfl) rfl (RMod_ct part (p.length + 1) _ (by omega) (by omega)) ?_)
    rintro _ w56 ⟨rfl, hF57⟩
    replace hH := hH.call hF57; clear hF57
    have hmod := modI_lt part (show 0 < p.length + 1 by omega)
    obtain ⟨A58, hk59, hv60⟩ := hp.row.cut (by decide) 0 (modI part (p.length + 1)) (by omega) (by omega)
    refine gl_q rfl rfl rfl (rd_cut (e := 5) (m := 1) (by kernel_rfl) (by kernel_rfl) rfl (.inl ⟨rfl, rfl⟩) (.inr ⟨_, _, rfl, rfl⟩) hk59) ?_
    have hr61 := RB.head hv60 (by omega)
    refine gl_ops 1 [(0, .pointer (some ⟨xb, 0, none⟩)), (1, .int .i64 0), (2, .string (bs nm)), (3, .slice A58 ((modI part (p.length + 1)) - 0) (cp - 0)), (4, .int .i64 n), (12, .pointer (some ⟨b3, 0, none⟩)), (14, .int .i64 part), (15, .bool true)] (by kernel_rfl) ?_
    refine gl_done rfl ?_
    refine sw_next ?_
    refine sw_seq ?_
    refine sw_seq ?_
    refine sw_region ?_  -- R14 ref.go:112
    refine gl_ops 11 [(0, .pointer (some ⟨xb, 0, none⟩)), (1, .int .i64 0), (2, .string (bs nm)), (3, .slice A58 ((modI part (p.length + 1)) - 0) (cp - 0)), (4, .int .i64 n), (12, .pointer (some ⟨b3, 0, none⟩)), (15, .bool true), (83, .bool true)] (by kernel_rfl) ?_
    refine gl_done rfl ?_
    refine sw_next ?_
    refine sw_true rfl rfl ?_
    refine sw_seq ?_
    refine sw_seq ?_
    refine sw_region ?_  -- R15 ref.go:113
    refine gl_ops 1 [(0, .pointer (some ⟨xb, 0, none⟩)), (1, .int .i64 0), (2, .string (bs nm)), (3, .slice A58 ((modI part (p.length + 1)) - 0) (cp - 0)), (4, .int .i64 n), (12, .pointer (some ⟨b3, 0, none⟩)), (15, .bool true), (84, .int .i64 0)] (by kernel_rfl) ?_
    refine gl_done rfl ?_
    refine sw_next ?_
    refine sw_block ?_
    refine sw_seq ?_
    refine sw_region ?_  -- R16 ref.go:114
    refine gl_ops 2 [(0, .pointer (some ⟨xb, 0, none⟩)), (1, .int .i64 0), (2, .string (bs nm)), (3, .slice A58 ((modI part (p.length + 1)) - 0) (cp - 0)), (4, .int .i64 n), (12, .pointer (some ⟨b3, 0, none⟩)), (15, .bool true), (84, .int .i64 0), (85, .bool true)] (by kernel_rfl) ?_
    refine gl_done rfl ?_
    refine sw_next ?_
    refine sw_true rfl rfl ?_
    refine sw_region ?_  -- R17 ref.go:115
    refine gl_st (st_buildS0 (e := 5) (m := 1) rfl rfl rfl (by kernel_rfl) (by kernel_rfl) hH ?_)
    clear hH; intro b62 w63 hH
    refine gl_ops 1 [(0, .pointer (some ⟨xb, 0, none⟩)), (1, .int .i64 0), (2, .string (bs nm)), (3, .slice A58 ((modI part (p.length + 1)) - 0) (cp - 0)), (12, .pointer (some ⟨b3, 0, none⟩)), (15, .bool true), (87, .slice (some ⟨b62, 0, none⟩) 0 0), (88, .pointer (some ⟨b3, 1, none⟩))] (by kernel_rfl) ?_
    refine gl_q rfl rfl rfl (rd_loadK 2 (by kernel_rfl) hH rfl rfl rfl) ?_
    refine gl_st (st_appH (e := 5) (zv := .int .u8 0) (m := 1) (bytes := 1) 4 rfl rfl rfl (by kernel_rfl) (by kernel_rfl) rfl (by decide) hH rfl rfl rfl (Row.nil _ _) (by simp) (by unfold maxLen; omega) (by omega) ?_)
    clear hH; intro v64 w65 hH
    replace hH := hH.row_eq 4 (l' := ([] : List UInt8).length) (xs' := bv ([] : List UInt8)) rfl (Nat.zero_add _) (List.nil_append _)
    obtain ⟨A66, c67, rfl, hl68, hm69⟩ := hH.row_form 4 rfl
    refine gl_ops 1 [(0, .pointer (some ⟨xb, 0, none⟩)), (1, .int .i64 0), (2, .string (bs nm)), (12, .pointer (some ⟨b3, 0, none⟩)), (15, .bool true), (90, .slice A66 (([] : List UInt8).length) c67), (91, .slice A58 ((modI part (p.length + 1)) - 0) (cp - 0))] (by kernel_rfl) ?_
    refine gl_st (st_appH (e := 5) (zv := .int .u8 0) (m := 1) (bytes := 1) 4 rfl rfl rfl (by kernel_rfl) (by kernel_rfl) rfl (by decide) hH rfl rfl rfl (hr61.row.mono hH.zin) (bv_one _) (by (try simp only [List.length_append, List.length_take, List.length_nil]); unfold maxLen; omega) (by (try simp only [List.length_append, List.length_take, List.length_nil]); omega) ?_)
    clear hH; intro v70 w71 hH
    replace hH := hH.row_eq 4 (l' := (([] : List UInt8) ++ (p.take (modI part (p.length + 1)))).length) (xs' := bv (([] : List UInt8) ++ (p.take (modI part (p.length + 1))))) rfl (by simp only [List.length_append, List.length_cons, List.length_nil] <;> omega) ((bv_append _ _).symm)
    obtain ⟨A72, c73, rfl, hl74, hm75⟩ := hH.row_form 4 rfl
    refine gl_ops 1 [(0, .pointer (some ⟨xb, 0, none⟩)), (1, .int .i64 0), (2, .string (bs nm)), (12, .pointer (some ⟨b3, 0, none⟩)), (15, .bool true), (92, .slice A72 ((([] : List UInt8) ++ (p.take (modI part (p.length + 1)))).length) c73), (93, .pointer (some ⟨b3, 1, none⟩))] (by kernel_rfl) ?_
    refine gl_st (st_storeK (v := .slice A72 ((([] : List UInt8) ++ (p.take (modI part (p.length + 1)))).length) c73) 2 rfl rfl rfl hH rfl rfl rfl (by kernel_rfl) rfl (by simp) ?_)
    clear hH; intro w76 hH
    refine gl_done rfl ?_
    refine bkN ?_
    refine sw_next ?_
    refine sw_seq ?_
    refine sw_region ?_  -- R26 ref.go:125
    refine gl_ops 2 [(0, .pointer (some ⟨xb, 0, none⟩)), (2, .string (bs nm)), (12, .pointer (some ⟨b3, 0, none⟩)), (15, .bool true), (124, .bool false)] (by kernel_rfl) ?_
    refine gl_done rfl ?_
    refine sw_next ?_
    refine sw_false rfl rfl ?_
    refine sw_region ?_  -- R28 ref.go:128
    refine gl_ops 1 [(12, .pointer (some ⟨b3, 0, none⟩)), (15, .bool true), (128, .pointer (some ⟨xb, 0, none⟩))] (by kernel_rfl) ?_
    refine gl_q rfl rfl rfl (rd_loadKA (m := 3) 2 (by kernel_rfl) hH rfl rfl (by kernel_rfl) [.string (bs nm), .slice A72 ((([] : List UInt8) ++ (p.take (modI part (p.length + 1)))).length) c73, .int .i64 0] rfl rfl) ?_
    replace hH : Hp w w76 _ _ [.row (.slice Ar L.length cr) 89 3 L.length (rowC filC L), filRs L, .blk b3 89 [.string (bs nm), .slice A72 ((([] : List UInt8) ++ (p.take (modI part (p.length + 1)))).length) c73, .int .i64 0], .blk xb 87 [.slice Ar L.length cr, .bool D2.off, .int .i64 (actsI D2.ar), .int .i64 part], .row (.slice A72 ((([] : List UInt8) ++ (p.take (modI part (p.length + 1)))).length) c73) 5 1 ((([] : List UInt8) ++ (p.take (modI part (p.length + 1)))).length) (bv (([] : List UInt8) ++ (p.take (modI part (p.length + 1)))))] := hH
    replace hH := hH.pick [3, 0, 1, 2, 4] (by kernel_rfl) (os' := [.blk xb 87 [.slice Ar L.length cr, .bool D2.off, .int .i64 (actsI D2.ar), .int .i64 part], .row (.slice Ar L.length cr) 89 3 L.length (rowC filC L), filRs L, .blk b3 89 [.string (bs nm), .slice A72 ((([] : List UInt8) ++ (p.take (modI part (p.length + 1)))).length) c73, .int .i64 0], .row (.slice A72 ((([] : List UInt8) ++ (p.take (modI part (p.length + 1)))).length) c73) 5 1 ((([] : List UInt8) ++ (p.take (modI part (p.length + 1)))).length) (bv (([] : List UInt8) ++ (p.take (modI part (p.length + 1)))))]) (by kernel_rfl)
    replace hH : Hp w w76 _ _ ([.blk xb 87 [.slice Ar L.length cr, .bool D2.off, .int .i64 (actsI D2.ar), .int .i64 part], .row (.slice Ar L.length cr) 89 3 L.length (rowC filC L)] ++ [filRs L, .blk b3 89 [.string (bs nm), .slice A72 ((([] : List UInt8) ++ (p.take (modI part (p.length + 1)))).length) c73, .int .i64 0], .row (.slice A72 ((([] : List UInt8) ++ (p.take (modI part (p.length + 1)))).length) c73) 5 1 ((([] : List UInt8) ++ (p.take (modI part (p.length + 1)))).length) (bv (([] : List UInt8) ++ (p.take (modI part (p.length + 1)))))]) := hH
    refine gl_st (st_call rfl rfl rfl (by kernel_rfl) rfl (RSet_ct xb _ L (⟨nm, (([] : List UInt8) ++ (p.take (modI part (p.length + 1)))), 0⟩, Value.slice A72 ((([] : List UInt8) ++ (p.take (modI part (p.length + 1)))).length) c73) _ _ _ _ hH.mine ⟨_, _, _, rfl⟩ hV (by omega)) ?_)
    rintro _ w77 ⟨rv2, rfl, hF78⟩
    replace hH := hH.turns hF78; clear hF78
    replace hH : Hp w w77 _ _ [filRs L, .blk b3 89 [.string (bs nm), .slice A72 ((([] : List UInt8) ++ (p.take (modI part (p.length + 1)))).length) c73, .int .i64 0], .row (.slice A72 ((([] : List UInt8) ++ (p.take (modI part (p.length + 1)))).length) c73) 5 1 ((([] : List UInt8) ++ (p.take (modI part (p.length + 1)))).length) (bv (([] : List UInt8) ++ (p.take (modI part (p.length + 1))))), .blk xb 87 [rv2, .bool D2.off, .int .i64 (actsI D2.ar), .int .i64 part], lstO rv2 (setL L (⟨nm, (([] : List UInt8) ++ (p.take (modI part (p.length + 1)))), 0⟩, Value.slice A72 ((([] : List UInt8) ++ (p.take (modI part (p.length + 1)))).length) c73))] := hH
    refine gl_done rfl ?_
    refine sw_next ?_
    refine sw_seq ?_
    refine sw_seq ?_
    refine sw_region ?_  -- R29 ref.go:131
    refine gl_ops 1 [(131, .bool true)] (by kernel_rfl) ?_
    refine gl_done rfl ?_
    refine sw_next ?_
    refine sw_true rfl rfl ?_
    refine sw_seq ?_
    refine sw_region ?_  -- R30 ref.go:132
    refine gl_ops 1 [(10, .int .i64 80)] (by kernel_rfl) ?_
    refine gl_done rfl ?_
    refine sw_next ?_
    refine sw_ret ?_
    refine thR ?_
    refine ret1 rfl rfl  ?_
    replace hH : Hp w w77 _ _ [filRs L, .blk b3 89 [.string (bs nm), .slice A72 ((([] : List UInt8) ++ (p.take (modI part (p.length + 1)))).length) c73, .int .i64 0], .row (.slice A72 ((([] : List UInt8) ++ (p.take (modI part (p.length + 1)))).length) c73) 5 1 ((([] : List UInt8) ++ (p.take (modI part (p.length + 1)))).length) (bv (([] : List UInt8) ++ (p.take (modI part (p.length + 1))))), .blk xb 87 [rv2, .bool D2.off, .int .i64 (actsI D2.ar), .int .i64 part], lstO rv2 (setL L (⟨nm, (([] : List UInt8) ++ (p.take (modI part (p.length + 1)))), 0⟩, Value.slice A72 ((([] : List UInt8) ++ (p.take (modI part (p.length + 1)))).length) c73))] := hH
    replace hH := hH.pick [2, 0, 1, 3, 4] (by kernel_rfl) (os' := [.row (.slice A72 ((([] : List UInt8) ++ (p.take (modI part (p.length + 1)))).length) c73) 5 1 ((([] : List UInt8) ++ (p.take (modI part (p.length + 1)))).length) (bv (([] : List UInt8) ++ (p.take (modI part (p.length + 1))))), filRs L, .blk b3 89 [.string (bs nm), .slice A72 ((([] : List UInt8) ++ (p.take (modI part (p.length + 1)))).length) c73, .int .i64 0], .blk xb 87 [rv2, .bool D2.off, .int .i64 (actsI D2.ar), .int .i64 part], lstO rv2 (setL L (⟨nm, (([] : List UInt8) ++ (p.take (modI part (p.length + 1)))), 0⟩, Value.slice A72 ((([] : List UInt8) ++ (p.take (modI part (p.length + 1)))).length) c73))]) (by kernel_rfl)
    replace hH : Hp w w77 _ _ (filR (⟨nm, (([] : List UInt8) ++ (p.take (modI part (p.length + 1)))), 0⟩, Value.slice A72 ((([] : List UInt8) ++ (p.take (modI part (p.length + 1)))).length) c73) :: filRs L :: [.blk b3 89 [.string (bs nm), .slice A72 ((([] : List UInt8) ++ (p.take (modI part (p.length + 1)))).length) c73, .int .i64 0], .blk xb 87 [rv2, .bool D2.off, .int .i64 (actsI D2.ar), .int .i64 part], lstO rv2 (setL L (⟨nm, (([] : List UInt8) ++ (p.take (modI part (p.length + 1)))), 0⟩, Value.slice A72 ((([] : List UInt8) ++ (p.take (modI part (p.length + 1)))).length) c73))]) := hH
    replace hH := rs_setL hH
    replace hH : Hp w w77 _ _ [filRs (setL L (⟨nm, (([] : List UInt8) ++ (p.take (modI part (p.length + 1)))), 0⟩, Value.slice A72 ((([] : List UInt8) ++ (p.take (modI part (p.length + 1)))).length) c73)), .blk b3 89 [.string (bs nm), .slice A72 ((([] : List UInt8) ++ (p.take (modI part (p.length + 1)))).length) c73, .int .i64 0], .blk xb 87 [rv2, .bool D2.off, .int .i64 (actsI D2.ar), .int .i64 part], lstO rv2 (setL L (⟨nm, (([] : List UInt8) ++ (p.take (modI part (p.length + 1)))), 0⟩, Value.slice A72 ((([] : List UInt8) ++ (p.take (modI part (p.length + 1)))).length) c73))] := hH
    replace hH := hH.pick [2, 3, 0, 1] (by kernel_rfl) (os' := [.blk xb 87 [rv2, .bool D2.off, .int .i64 (actsI D2.ar), .int .i64 part], lstO rv2 (setL L (⟨nm, (([] : List UInt8) ++ (p.take (modI part (p.length + 1)))), 0⟩, Value.slice A72 ((([] : List UInt8) ++ (p.take (modI part (p.length + 1)))).length) c73)), filRs (setL L (⟨nm, (([] : List UInt8) ++ (p.take (modI part (p.length + 1)))), 0⟩, Value.slice A72 ((([] : List UInt8) ++ (p.take (modI part (p.length + 1)))).length) c73)), .blk b3 89 [.string (bs nm), .slice A72 ((([] : List UInt8) ++ (p.take (modI part (p.length + 1)))).length) c73, .int .i64 0]]) (by kernel_rfl)
    replace hH := (hH.sublist (.cons_cons _ (.cons_cons _ (.cons_cons _ (List.nil_sublist _)))))
    replace hH : Hp w w77 _ _ [.blk xb 87 [rv2, .bool D2.off, .int .i64 (actsI D2.ar), .int .i64 part], lstO rv2 (setL L (⟨nm, (([] : List UInt8) ++ (p.take (modI part (p.length + 1)))), 0⟩, Value.slice A72 ((([] : List UInt8) ++ (p.take (modI part (p.length + 1)))).length) c73)), filRs (setL L (⟨nm, (([] : List UInt8) ++ (p.take (modI part (p.length + 1)))), 0⟩, Value.slice A72 ((([] : List UInt8) ++ (p.take (modI part (p.length + 1)))).length) c73))] := hH
    exact rfin_do (kind := 0) (th := false) (L' := setL L (⟨nm, (([] : List UInt8) ++ (p.take (modI part (p.length + 1)))), 0⟩, Value.slice A72 ((([] : List UInt8) ++ (p.take (modI part (p.length + 1)))).length) c73)) (rv' := rv2) (p.take (modI part (p.length + 1))) 80 (by simp) rfl hm0 (fun h => absurd h.1 (by decide)) hcut (.inr (.inl rfl)) (by rw [hpt]; simp) (by rw [setL_fs hF hG.srt]; unfold doF; rw [hold] <;> rfl) ((hH.close (r := [])).turned)
  refine gl_cv 15 (.bool false) (by rw [hg16]) rfl ?_
  try simp only [decide_eq_false_iff_not, beq_eq_false_iff_ne, bne_eq_false_iff_eq, ne_eq, Decidable.not_not, Int.not_lt, Int.not_le, Bool.not_eq_false', beq_iff_eq, bne_iff_ne, decide_eq_true_eq] at hg16
  subst hg16
  refine gl_ops 3 [(0, .pointer (some ⟨xb, 0, none⟩)), (1, .int .i64 0), (2, .string (bs nm)), (3, .slice Ap p.length cp), (4, .int .i64 n), (12, .pointer (some ⟨b3, 0, none⟩)), (14, .int .i64 part), (15, .bool false), (65, .bool false)] (by kernel_rfl) ?_
  refine gl_done rfl ?_
  refine sw_next ?_
  refine sw_false rfl rfl ?_
  refine sw_skip ?_
  refine sw_next ?_
  refine sw_seq ?_
  refine sw_seq ?_
  refine sw_region ?_  -- R14 ref.go:112
  refine gl_ops 11 [(0, .pointer (some ⟨xb, 0, none⟩)), (1, .int .i64 0), (2, .string (bs nm)), (3, .slice Ap p.length cp), (4, .int .i64 n), (12, .pointer (some ⟨b3, 0, none⟩)), (15, .bool false), (83, .bool true)] (by kernel_rfl) ?_
  refine gl_done rfl ?_
  refine sw_next ?_
  refine sw_true rfl rfl ?_
  refine sw_seq ?_
  refine sw_seq ?_
  refine sw_region ?_  -- R15 ref.go:113
  refine gl_ops 1 [(0, .pointer (some ⟨xb, 0, none⟩)), (1, .int .i64 0), (2, .string (bs nm)), (3, .slice Ap p.length cp), (4, .int .i64 n), (12, .pointer (some ⟨b3, 0, none⟩)), (15, .bool false), (84, .int .i64 0)] (by kernel_rfl) ?_
  refine gl_done rfl ?_
  refine sw_next ?_
  refine sw_block ?_
  refine sw_seq ?_
  refine sw_region ?_  -- R16 ref.go:114
  refine gl_ops 2 [(0, .pointer (some ⟨xb, 0, none⟩)), (1, .int .i64 0), (2, .string (bs nm)), (3, .slice Ap p.length cp), (4, .int .i64 n), (12, .pointer (some ⟨b3, 0, none⟩)), (15, .bool false), (84, .int .i64 0), (85, .bool true)] (by kernel_rfl) ?_
  refine gl_done rfl ?_
  refine sw_next ?_
  refine sw_true rfl rfl ?_
  refine sw_region ?_  -- R17 ref.go:115
  refine gl_st (st_buildS0 (e := 5) (m := 1) rfl rfl rfl (by kernel_rfl) (by kernel_rfl) hH ?_)
  clear hH; intro b79 w80 hH
  refine gl_ops 1 [(0, .pointer (some ⟨xb, 0, none⟩)), (1, .int .i64 0), (2, .string (bs nm)), (3, .slice Ap p.length cp), (12, .pointer (some ⟨b3, 0, none⟩)), (15, .bool false), (87, .slice (some ⟨b79, 0, none⟩) 0 0), (88, .pointer (some ⟨b3, 1, none⟩))] (by kernel_rfl) ?_
  refine gl_q rfl rfl rfl (rd_loadK 2 (by kernel_rfl) hH rfl rfl rfl) ?_
  refine gl_st (st_appH (e := 5) (zv := .int .u8 0) (m := 1) (bytes := 1) 4 rfl rfl rfl (by kernel_rfl) (by kernel_rfl) rfl (by decide) hH rfl rfl rfl (Row.nil _ _) (by simp) (by unfold maxLen; omega) (by omega) ?_)
  clear hH; intro v81 w82 hH
  replace hH := hH.row_eq 4 (l' := ([] : List UInt8).length) (xs' := bv ([] : List UInt8)) rfl (Nat.zero_add _) (List.nil_append _)
  obtain ⟨A83, c84, rfl, hl85, hm86⟩ := hH.row_form 4 rfl
  refine gl_ops 1 [(0, .pointer (some ⟨xb, 0, none⟩)), (1, .int .i64 0), (2, .string (bs nm)), (12, .pointer (some ⟨b3, 0, none⟩)), (15, .bool false), (90, .slice A83 (([] : List UInt8).length) c84), (91, .slice Ap p.length cp)] (by kernel_rfl) ?_
  refine gl_st (st_appH (e := 5) (zv := .int .u8 0) (m := 1) (bytes := 1) 4 rfl rfl rfl (by kernel_rfl) (by kernel_rfl) rfl (by decide) hH rfl rfl rfl (hp.row.mono hH.zin) (bv_one _) (by (try simp only [List.length_append, List.length_take, List.length_nil]); unfold maxLen; omega) (by (try simp only [List.length_append, List.length_take, List.length_nil]); omega) ?_)
  clear hH; intro v87 w88 hH
  replace hH := hH.row_eq 4 (l' := (([] : List UInt8) ++ p).length) (xs' := bv (([] : List UInt8) ++ p)) rfl (by simp only [List.length_append, List.length_cons, List.length_nil] <;> omega) ((bv_append _ _).symm)
  obtain ⟨A89, c90, rfl, hl91, hm92⟩ := hH.row_form 4 rfl
  refine gl_ops 1 [(0, .pointer (some ⟨xb, 0, none⟩)), (1, .int .i64 0), (2, .string (bs nm)), (12, .pointer (some ⟨b3, 0, none⟩)), (15, .bool false), (92, .slice A89 ((([] : List UInt8) ++ p).length) c90), (93, .pointer (some ⟨b3, 1, none⟩))] (by kernel_rfl) ?_
  refine gl_st (st_storeK (v := .slice A89 ((([] : List UInt8) ++ p).length) c90) 2 rfl rfl rfl hH rfl rfl rfl (by kernel_rfl) rfl (by simp) ?_)
  clear hH; intro w93 hH
  refine gl_done rfl ?_
  refine bkN ?_
  refine sw_next ?_
  refine sw_seq ?_
  refine sw_region ?_  -- R26 ref.go:125
  refine gl_ops 2 [(0, .pointer (some ⟨xb, 0, none⟩)), (2, .string (bs nm)), (12, .pointer (some ⟨b3, 0, none⟩)), (15, .bool false), (124, .bool false)] (by kernel_rfl) ?_
  refine gl_done rfl ?_
  refine sw_next ?_
  refine sw_false rfl rfl ?_
  refine sw_region ?_  -- R28 ref.go:128
  refine gl_ops 1 [(12, .pointer (some ⟨b3, 0, none⟩)), (15, .bool false), (128, .pointer (some ⟨xb, 0, none⟩))] (by kernel_rfl) ?_
  refine gl_q rfl rfl rfl (rd_loadKA (m := 3) 2 (by kernel_rfl) hH rfl rfl (by kernel_rfl) [.string (bs nm), .slice A89 ((([] : List UInt8) ++ p).length) c90, .int .i64 0] rfl rfl) ?_
  replace hH : Hp w w93 _ _ [.row (.slice Ar L.length cr) 89 3 L.length (rowC filC L), filRs L, .blk b3 89 [.string (bs nm), .slice A89 ((([] : List UInt8) ++ p).length) c90, .int .i64 0], .blk xb 87 [.slice Ar L.length cr, .bool D2.off, .int .i64 (actsI D2.ar), .int .i64 part], .row (.slice A89 ((([] : List UInt8) ++ p).length) c90) 5 1 ((([] : List UInt8) ++ p).length) (bv (([] : List UInt8) ++ p))] := hH
  replace hH := hH.pick [3, 0, 1, 2, 4] (by kernel_rfl) (os' := [.blk xb 87 [.slice Ar L.length cr, .bool D2.off, .int .i64 (actsI D2.ar), .int .i64 part], .row (.slice Ar L.length cr) 89 3 L.length (rowC filC L), filRs L, .blk b3 89 [.string (bs nm), .slice A89 ((([] : List UInt8) ++ p).length) c90, .int .i64 0], .row (.slice A89 ((([] : List UInt8) ++ p).length) c90) 5 1 ((([] : List UInt8) ++ p).length) (bv (([] : List UInt8) ++ p))]) (by kernel_rfl)
  replace hH : Hp w w93 _ _ ([.blk xb 87 [.slice Ar L.length cr, .bool D2.off, .int .i64 (actsI D2.ar), .int .i64 part], .row (.slice Ar L.length cr) 89 3 L.length (rowC filC L)] ++ [filRs L, .blk b3 89 [.string (bs nm), .slice A89 ((([] : List UInt8) ++ p).length) c90, .int .i64 0], .row (.slice A89 ((([] : List UInt8) ++ p).length) c90) 5 1 ((([] : List UInt8) ++ p).length) (bv (([] : List UInt8) ++ p))]) := hH
  refine gl_st (st_call rfl rfl rfl (by kernel_rfl) rfl (RSet_ct xb _ L (⟨nm, (([] : List UInt8) ++ p), 0⟩, Value.slice A89 ((([] : List UInt8) ++ p).length) c90) _ _ _ _ hH.mine ⟨_, _, _, rfl⟩ hV (by omega)) ?_)
  rintro _ w94 ⟨rv2, rfl, hF95⟩
  replace hH := hH.turns hF95; clear hF95
  replace hH : Hp w w94 _ _ [filRs L, .blk b3 89 [.string (bs nm), .slice A89 ((([] : List UInt8) ++ p).length) c90, .int .i64 0], .row (.slice A89 ((([] : List UInt8) ++ p).length) c90) 5 1 ((([] : List UInt8) ++ p).length) (bv (([] : List UInt8) ++ p)), .blk xb 87 [rv2, .bool D2.off, .int .i64 (actsI D2.ar), .int .i64 part], lstO rv2 (setL L (⟨nm, (([] : List UInt8) ++ p), 0⟩, Value.slice A89 ((([] : List UInt8) ++ p).length) c90))] := hH
  refine gl_done rfl ?_
  refine sw_next ?_
  refine sw_seq ?_
  refine sw_seq ?_
  refine sw_region ?_  -- R29 ref.go:131
  refine gl_ops 1 [(131, .bool false)] (by kernel_rfl) ?_
  refine gl_done rfl ?_
  refine sw_next ?_
  refine sw_false rfl rfl ?_
  refine sw_skip ?_
  refine sw_next ?_
  refine sw_seq ?_
  refine sw_region ?_  -- R31 ref.go:134
  refine gl_ops 1 [(10, .int .i64 0)] (by kernel_rfl) ?_
  refine gl_done rfl ?_
  refine sw_next ?_
  refine sw_ret ?_
  refine ret1 rfl rfl  ?_
  replace hH : Hp w w94 _ _ [filRs L, .blk b3 89 [.string (bs nm), .slice A89 ((([] : List UInt8) ++ p).length) c90, .int .i64 0], .row (.slice A89 ((([] : List UInt8) ++ p).length) c90) 5 1 ((([] : List UInt8) ++ p).length) (bv (([] : List UInt8) ++ p)), .blk xb 87 [rv2, .bool D2.off, .int .i64 (actsI D2.ar), .int .i64 part], lstO rv2 (setL L (⟨nm, (([] : List UInt8) ++ p), 0⟩, Value.slice A89 ((([] : List UInt8) ++ p).length) c90))] := hH
  replace hH := hH.pick [2, 0, 1, 3, 4] (by kernel_rfl) (os' := [.row (.slice A89 ((([] : List UInt8) ++ p).length) c90) 5 1 ((([] : List UInt8) ++ p).length) (bv (([] : List UInt8) ++ p)), filRs L, .blk b3 89 [.string (bs nm), .slice A89 ((([] : List UInt8) ++ p).length) c90, .int .i64 0], .blk xb 87 [rv2, .bool D2.off, .int .i64 (actsI D2.ar), .int .i64 part], lstO rv2 (setL L (⟨nm, (([] : List UInt8) ++ p), 0⟩, Value.slice A89 ((([] : List UInt8) ++ p).length) c90))]) (by kernel_rfl)
  replace hH : Hp w w94 _ _ (filR (⟨nm, (([] : List UInt8) ++ p), 0⟩, Value.slice A89 ((([] : List UInt8) ++ p).length) c90) :: filRs L :: [.blk b3 89 [.string (bs nm), .slice A89 ((([] : List UInt8) ++ p).length) c90, .int .i64 0], .blk xb 87 [rv2, .bool D2.off, .int .i64 (actsI D2.ar), .int .i64 part], lstO rv2 (setL L (⟨nm, (([] : List UInt8) ++ p), 0⟩, Value.slice A89 ((([] : List UInt8) ++ p).length) c90))]) := hH
  replace hH := rs_setL hH
  replace hH : Hp w w94 _ _ [filRs (setL L (⟨nm, (([] : List UInt8) ++ p), 0⟩, Value.slice A89 ((([] : List UInt8) ++ p).length) c90)), .blk b3 89 [.string (bs nm), .slice A89 ((([] : List UInt8) ++ p).length) c90, .int .i64 0], .blk xb 87 [rv2, .bool D2.off, .int .i64 (actsI D2.ar), .int .i64 part], lstO rv2 (setL L (⟨nm, (([] : List UInt8) ++ p), 0⟩, Value.slice A89 ((([] : List UInt8) ++ p).length) c90))] := hH
  replace hH := hH.pick [2, 3, 0, 1] (by kernel_rfl) (os' := [.blk xb 87 [rv2, .bool D2.off, .int .i64 (actsI D2.ar), .int .i64 part], lstO rv2 (setL L (⟨nm, (([] : List UInt8) ++ p), 0⟩, Value.slice A89 ((([] : List UInt8) ++ p).length) c90)), filRs (setL L (⟨nm, (([] : List UInt8) ++ p), 0⟩, Value.slice A89 ((([] : List UInt8) ++ p).length) c90)), .blk b3 89 [.string (bs nm), .slice A89 ((([] : List UInt8) ++ p).length) c90, .int .i64 0]]) (by kernel_rfl)
  replace hH := (hH.sublist (.cons_cons _ (.cons_cons _ (.cons_cons _ (List.nil_sublist _)))))
  replace hH : Hp w w94 _ _ [.blk xb 87 [rv2, .bool D2.off, .int .i64 (actsI D2.ar), .int .i64 part], lstO rv2 (setL L (⟨nm, (([] : List UInt8) ++ p), 0⟩, Value.slice A89 ((([] : List UInt8) ++ p).length) c90)), filRs (setL L (⟨nm, (([] : List UInt8) ++ p), 0⟩, Value.slice A89 ((([] : List UInt8) ++ p).length) c90))] := hH
  exact rfin_do (kind := 0) (th := false) (L' := setL L (⟨nm, (([] : List UInt8) ++ p), 0⟩, Value.slice A89 ((([] : List UInt8) ++ p).length) c90)) (rv' := rv2) (p) 0 (by simp) rfl hm0 (fun h => absurd h.1 (by decide)) hcut (.inl rfl) (by simp) (by rw [setL_fs hF hG.srt]; unfold doF; rw [hold] <;> rfl) ((hH.close (r := [])).turned)
theorem RDo1_ct (xb : Nat) (rv : Value) (D : Dsk) (part : Int) (L : FV) (nm : List UInt8) (vp : Value) (p : List UInt8) (n : Int) (M : Nat) (w : World) (hM : Mine w (ownR xb rv D part L)) (hF : L.map (·.1) = D.fs) (hA : ArOk D.ar) (hP : PartOk D.ar part) (hG : Good D.fs M) (hMM : M ≤ 4194304) (hN : L.length ≤ 900000) (hs : nm.length ≤ 140737488355328) (hp : RB (off w (blksOf (ownR xb rv D part L))) vp p) (hpl : p.length ≤ 1048576) :
    Fun Tryd.prog 70 [.pointer (some ⟨xb, 0, none⟩), .int .i64 1, .string (bs nm), vp, .int .i64 n] w fun v w' => RPost xb rv D part L (doD D 1 nm p n) w v w' := by
  obtain ⟨Ar, cr, rfl, hcr1, hcr2⟩ := (Row.of_own (hM.1 _ (List.mem_singleton.2 rfl) (lstO rv L) (by simp [rdkO]))).form
  have hcr3 := hcr2
  simp only [maxLen] at hcr3
  have hV : SlV L := filRs_sl (hM.1 _ (List.mem_singleton.2 rfl) (filRs L) (by simp [rdkO]))
  obtain ⟨Ap, cp, rfl, hp1, hp2⟩ := hp.row.form
  refine fun_of_sw Tryd.func70 rfl 132 rfl rfl ?_
  have hH : Hp w w (off w (blksOf (ownR xb (.slice Ar L.length cr) D part L))) (blksOf (ownR xb (.slice Ar L.length cr) D part L)) (rdkO xb (.slice Ar L.length cr) D.off (actsI D.ar) part L ++ []) := (Hp.start_mine hM).open_
  replace hH : Hp w w _ _ [.blk xb 87 [.slice Ar L.length cr, .bool D.off, .int .i64 (actsI D.ar), .int .i64 part], .row (.slice Ar L.length cr) 89 3 L.length (rowC filC L), filRs L] := hH
  refine sw_seq ?_
  refine sw_region ?_  -- R0 ref.go:94
  refine gl_ops 1 [(0, .pointer (some ⟨xb, 0, none⟩)), (1, .int .i64 1), (2, .string (bs nm)), (3, .slice Ap p.length cp), (4, .int .i64 n)] (by kernel_rfl) ?_
  refine gl_done rfl ?_
  refine sw_next ?_
  refine sw_seq ?_
  refine sw_region ?_  -- R1 ref.go:95
  refine gl_ops 8 [(0, .pointer (some ⟨xb, 0, none⟩)), (1, .int .i64 1), (2, .string (bs nm)), (3, .slice Ap p.length cp), (4, .int .i64 n), (16, .pointer (some ⟨xb, 0, none⟩)), (17, .string (bs nm)), (23, .bool true)] (by kernel_rfl) ?_
  refine gl_st (st_call rfl rfl rfl (by kernel_rfl) rfl (RMay18_ct xb _ L D nm true _ (hH.blk_cell 0 rfl rfl) (hH.blk_cell 0 rfl rfl) (hH.row_reads 1 rfl) hF hs) ?_)
  rintro _ w1 ⟨rfl, hF2⟩
  replace hH := hH.call hF2; clear hF2
  refine gl_ops 1 [(0, .pointer (some ⟨xb, 0, none⟩)), (1, .int .i64 1), (2, .string (bs nm)), (3, .slice Ap p.length cp), (4, .int .i64 n), (11, .int .i64 ((mayE D nm true : Nat) : Int))] (by kernel_rfl) ?_
  refine gl_done rfl ?_
  refine sw_next ?_
  refine sw_seq ?_
  refine sw_seq ?_
  refine sw_region ?_  -- R2 ref.go:96
  refine gl_ops 2 [(0, .pointer (some ⟨xb, 0, none⟩)), (1, .int .i64 1), (2, .string (bs nm)), (3, .slice Ap p.length cp), (4, .int .i64 n), (11, .int .i64 ((mayE D nm true : Nat) : Int)), (26, .bool (((mayE D nm true : Nat) : Int) != (0 : Int)))] (by kernel_rfl) ?_
  refine gl_done rfl ?_
  refine sw_next ?_
  refine sw_cond rfl rfl (fun hc1 => ?_) (fun hc1 => ?_)
  ·
    try simp only [decide_eq_true_eq, beq_iff_eq, bne_iff_ne, ne_eq, Bool.not_eq_true', beq_eq_false_iff_ne, bne_eq_false_iff_eq, decide_eq_false_iff_not, Int.not_lt, Int.not_le] at hc1
    refine sw_seq ?_
    refine sw_region ?_  -- R3 ref.go:97
    refine gl_ops 2 [(10, .int .i64 ((mayE D nm true : Nat) : Int))] (by kernel_rfl) ?_
    refine gl_done rfl ?_
    refine sw_next ?_
    refine sw_ret ?_
    refine thR ?_
    refine ret1 rfl rfl  ?_
    replace hH := (hH.sublist (.cons_cons _ (.cons_cons _ (.cons_cons _ (List.nil_sublist _)))))
    replace hH : Hp w w1 _ _ [.blk xb 87 [.slice Ar L.length cr, .bool D.off, .int .i64 (actsI D.ar), .int .i64 part], .row (.slice Ar L.length cr) 89 3 L.length (rowC filC L), filRs L] := hH
    exact rfin_err (kind := 1) (th := true) hF rfl (by omega) ((hH.close (r := [])).turned)
  try simp only [decide_eq_false_iff_not, beq_eq_false_iff_ne, bne_eq_false_iff_eq, ne_eq, Decidable.not_not, Int.not_lt, Int.not_le, Bool.not_eq_false', beq_iff_eq, bne_iff_ne, decide_eq_true_eq] at hc1
  have hm0 : mayE D nm true = 0 := by omega
  have hlt := rdk_lt hF hm0
  obtain ⟨b, sr, fv, hq, hold, hmem⟩ := rdk_find hF hlt
  obtain ⟨Af, cf, rfl, hf1, hf2⟩ := (filRs_rb3 hH 2 rfl hq).row.form
  have hbM := hG.short _ hmem
  have hsr := hG.sure _ hmem
  simp only at hbM hsr
  refine sw_skip ?_
  refine sw_next ?_
  refine sw_seq ?_
  refine sw_region ?_  -- R4 ref.go:99
  refine gl_ops 2 [(0, .pointer (some ⟨xb, 0, none⟩)), (1, .int .i64 1), (2, .string (bs nm)), (3, .slice Ap p.length cp), (4, .int .i64 n), (29, .agg #[.string (bs nm), .slice none 0 0, .int .i64 0])] (by kernel_rfl) ?_
  refine gl_st (st_allocH rfl rfl rfl (cs := [.string (bs []), .slice none 0 0, .int .i64 0]) (by kernel_rfl) hH ?_)
  clear hH; intro b3 w4 hH
  refine gl_st (st_storeKA (vs := [.string (bs nm), .slice none 0 0, .int .i64 0]) 3 rfl rfl rfl hH rfl rfl (by kernel_rfl) (by kernel_rfl) rfl (by simp) [.string (bs nm), .slice none 0 0, .int .i64 0] rfl ?_)
  clear hH; intro w5 hH
  refine gl_done rfl ?_
  refine sw_next ?_
  refine sw_seq ?_
  refine sw_region ?_  -- R5 ref.go:100
  refine gl_ops 2 [(0, .pointer (some ⟨xb, 0, none⟩)), (1, .int .i64 1), (2, .string (bs nm)), (3, .slice Ap p.length cp), (4, .int .i64 n), (12, .pointer (some ⟨b3, 0, none⟩)), (30, .pointer (some ⟨xb, 0, none⟩)), (31, .string (bs nm))] (by kernel_rfl) ?_
  refine gl_st (st_call rfl rfl rfl (by kernel_rfl) rfl (RFind_ct xb _ L nm _ (hH.blk_cell 0 rfl rfl) (hH.row_reads 1 rfl)) ?_)
  rintro _ w6 ⟨rfl, hF7⟩
  replace hH := hH.call hF7; clear hF7
  refine gl_cv 32 (.int .i64 ((fndI L nm : Nat) : Int)) (by unfold fndZ; rw [if_pos hlt]) rfl ?_
  refine gl_ops 1 [(0, .pointer (some ⟨xb, 0, none⟩)), (1, .int .i64 1), (2, .string (bs nm)), (3, .slice Ap p.length cp), (4, .int .i64 n), (12, .pointer (some ⟨b3, 0, none⟩)), (13, .int .i64 ((fndI L nm : Nat) : Int))] (by kernel_rfl) ?_
  refine gl_done rfl ?_
  refine sw_next ?_
  refine sw_seq ?_
  refine sw_seq ?_
  refine sw_region ?_  -- R6 ref.go:101
  refine gl_ops 2 [(0, .pointer (some ⟨xb, 0, none⟩)), (1, .int .i64 1), (2, .string (bs nm)), (3, .slice Ap p.length cp), (4, .int .i64 n), (12, .pointer (some ⟨b3, 0, none⟩)), (13, .int .i64 ((fndI L nm : Nat) : Int)), (34, .bool (decide (((fndI L nm : Nat) : Int) ≥ (0 : Int))))] (by kernel_rfl) ?_
  refine gl_done rfl ?_
  refine sw_next ?_
  refine sw_cond rfl rfl (fun hc2 => ?_) (fun hc2 => ?_)
  rotate_left
  · exact absurd hc2 (by simp only [decide_eq_false_iff_not, beq_eq_false_iff_ne, bne_eq_false_iff_eq, ne_eq, Decidable.not_not, Int.not_lt, Int.not_le]; omega)
  clear hc2
  refine sw_region ?_  -- R7 ref.go:102
  refine gl_ops 3 [(0, .pointer (some ⟨xb, 0, none⟩)), (1, .int .i64 1), (2, .string (bs nm)), (3, .slice Ap p.length cp), (4, .int .i64 n), (12, .pointer (some ⟨b3, 0, none⟩)), (13, .int .i64 ((fndI L nm : Nat) : Int)), (37, .pointer (some ⟨xb, 0, none⟩))] (by kernel_rfl) ?_
  refine gl_q rfl rfl rfl (rd_loadK 0 (by kernel_rfl) hH rfl rfl rfl) ?_
  obtain ⟨b9, hb8, hi10⟩ := hH.row_idx 1 rfl (fndI L nm) (by omega)
  refine gl_ops 1 [(0, .pointer (some ⟨xb, 0, none⟩)), (1, .int .i64 1), (2, .string (bs nm)), (3, .slice Ap p.length cp), (4, .int .i64 n), (12, .pointer (some ⟨b3, 0, none⟩)), (38, .slice Ar L.length cr), (39, .int .i64 ((fndI L nm : Nat) : Int))] (by kernel_rfl) ?_
  refine gl_q rfl rfl rfl (rd_idx (e := 89) (m := 3) (by kernel_rfl) (by kernel_rfl) rfl rfl hi10) ?_
  refine gl_q rfl rfl rfl (rd_loadOA (q := 3) 1 (by kernel_rfl) hH rfl rfl hb8 (by kernel_rfl) [.string (bs nm), .slice Af b.length cf, .int .i64 ((sr : Nat) : Int)] rfl (rowC_allO filC_len hq _ rfl)) ?_
  refine gl_st (st_storeKA (vs := [.string (bs nm), .slice Af b.length cf, .int .i64 ((sr : Nat) : Int)]) 3 rfl rfl rfl hH rfl rfl (by kernel_rfl) (by kernel_rfl) rfl (by simp) [.string (bs nm), .slice Af b.length cf, .int .i64 ((sr : Nat) : Int)] rfl ?_)
  clear hH; intro w11 hH
  refine gl_done rfl ?_
  refine sw_next ?_
  refine sw_seq ?_
  refine sw_seq ?_
  refine sw_region ?_  -- R8 ref.go:104
  refine gl_ops 13 [(0, .pointer (some ⟨xb, 0, none⟩)), (1, .int .i64 1), (2, .string (bs nm)), (3, .slice Ap p.length cp), (4, .int .i64 n), (12, .pointer (some ⟨b3, 0, none⟩)), (54, .bool false)] (by kernel_rfl) ?_
  refine gl_done rfl ?_
  refine sw_next ?_
  refine sw_false rfl rfl ?_
  refine sw_skip ?_
  refine sw_next ?_
  refine sw_seq ?_
  refine sw_region ?_  -- R10 ref.go:107
  refine gl_ops 3 [(0, .pointer (some ⟨xb, 0, none⟩)), (1, .int .i64 1), (2, .string (bs nm)), (3, .slice Ap p.length cp), (4, .int .i64 n), (12, .pointer (some ⟨b3, 0, none⟩)), (57, .pointer (some ⟨xb, 3, none⟩))] (by kernel_rfl) ?_
  refine gl_q rfl rfl rfl (rd_loadK 0 (by kernel_rfl) hH rfl rfl rfl) ?_
  refine gl_ops 1 [(0, .pointer (some ⟨xb, 0, none⟩)), (1, .int .i64 1), (2, .string (bs nm)), (3, .slice Ap p.length cp), (4, .int .i64 n), (12, .pointer (some ⟨b3, 0, none⟩)), (14, .int .i64 part)] (by kernel_rfl) ?_
  refine gl_done rfl ?_
  refine sw_next ?_
  refine sw_seq ?_
  refine sw_region ?_  -- R11 ref.go:108
  obtain ⟨D2, cu, pt, hcut⟩ : ∃ D2 cu pt, cutD D = (D2, cu, pt) := ⟨_, _, _, rfl⟩
  refine gl_ops 1 [(0, .pointer (some ⟨xb, 0, none⟩)), (1, .int .i64 1), (2, .string (bs nm)), (3, .slice Ap p.length cp), (4, .int .i64 n), (12, .pointer (some ⟨b3, 0, none⟩)), (14, .int .i64 part), (59, .pointer (some ⟨xb, 0, none⟩))] (by kernel_rfl) ?_
  replace hH : Hp w w11 _ _ ([.blk xb 87 [.slice Ar L.length cr, .bool D.off, .int .i64 (actsI D.ar), .int .i64 part]] ++ [.row (.slice Ar L.length cr) 89 3 L.length (rowC filC L), filRs L, .blk b3 89 [.string (bs nm), .slice Af b.length cf, .int .i64 ((sr : Nat) : Int)]]) := hH
  refine gl_st (st_call rfl rfl rfl (by kernel_rfl) rfl (RAct_ct xb _ D D2 cu pt part _ hcut hA hH.mine) ?_)
  rintro _ w12 ⟨rfl, hF13⟩
  replace hH := hH.turns hF13; clear hF13
  replace hH : Hp w w12 _ _ [.row (.slice Ar L.length cr) 89 3 L.length (rowC filC L), filRs L, .blk b3 89 [.string (bs nm), .slice Af b.length cf, .int .i64 ((sr : Nat) : Int)], .blk xb 87 [.slice Ar L.length cr, .bool D2.off, .int .i64 (actsI D2.ar), .int .i64 part]] := hH
  refine gl_ops 1 [(0, .pointer (some ⟨xb, 0, none⟩)), (1, .int .i64 1), (2, .string (bs nm)), (3, .slice Ap p.length cp), (4, .int .i64 n), (12, .pointer (some ⟨b3, 0, none⟩)), (14, .int .i64 part), (15, .bool cu)] (by kernel_rfl) ?_
  refine gl_done rfl ?_
  refine sw_next ?_
  refine sw_seq ?_
  refine sw_seq ?_
  refine sw_region ?_  -- R12 ref.go:109
  refine gl_ops 2 [(0, .pointer (some ⟨xb, 0, none⟩)), (1, .int .i64 1), (2, .string (bs nm)), (3, .slice Ap p.length cp), (4, .int .i64 n), (12, .pointer (some ⟨b3, 0, none⟩)), (14, .int .i64 part), (15, .bool cu), (62, .bool cu)] (by kernel_rfl) ?_
  refine gl_split 62 (b := cu) rfl (fun hg4 => ?_) (fun hg4 => ?_)
  ·
    refine gl_cv 15 (.bool true) (by rw [hg4]) rfl ?_
    try simp only [decide_eq_true_eq, beq_iff_eq, bne_iff_ne, ne_eq, Bool.not_eq_true', beq_eq_false_iff_ne, bne_eq_false_iff_eq, decide_eq_false_iff_not, Int.not_lt, Int.not_le] at hg4
    subst hg4
    have hpt := cut_part hcut hP rfl
    refine gl_ops 3 [(0, .pointer (some ⟨xb, 0, none⟩)), (1, .int .i64 1), (2, .string (bs nm)), (3, .slice Ap p.length cp), (4, .int .i64 n), (12, .pointer (some ⟨b3, 0, none⟩)), (14, .int .i64 part), (15, .bool true), (65, .bool false)] (by kernel_rfl) ?_
    refine gl_done rfl ?_
    refine sw_next ?_
    refine sw_false rfl rfl ?_
    refine sw_skip ?_
    refine sw_next ?_
    refine sw_seq ?_
    refine sw_seq ?_
    refine sw_region ?_  -- R14 ref.go:112
    refine gl_ops 8 [(0, .pointer (some ⟨xb, 0, none⟩)), (1, .int .i64 1), (2, .string (bs nm)), (3, .slice Ap p.length cp), (4, .int .i64 n), (12, .pointer (some ⟨b3, 0, none⟩)), (15, .bool true), (79, .bool false), (80, .int .i64 part)] (by kernel_rfl) ?_
    refine gl_st (st_call rfl rfl rfl (by kernel_rfl) rfl (RMod_ct part 2 _ (by omega) (by omega)) ?_)
    rintro _ w14 ⟨rfl, hF15⟩
    replace hH := hH.call hF15; clear hF15
    refine gl_ops 2 [(0, .pointer (some ⟨xb, 0, none⟩)), (1, .int .i64 1), (2, .string (bs nm)), (3, .slice Ap p.length cp), (4, .int .i64 n), (12, .pointer (some ⟨b3, 0, none⟩)), (15, .bool true), (83, .bool (((modI part 2 : Nat) : Int) == (1 : Int)))] (by kernel_rfl) ?_
    refine gl_done rfl ?_
    refine sw_next ?_
    refine sw_cond rfl rfl (fun hc6 => ?_) (fun hc6 => ?_)
    ·
      try simp only [decide_eq_true_eq, beq_iff_eq, bne_iff_ne, ne_eq, Bool.not_eq_true', beq_eq_false_iff_ne, bne_eq_false_iff_eq, decide_eq_false_iff_not, Int.not_lt, Int.not_le] at hc6
      refine sw_seq ?_
      refine sw_seq ?_
      refine sw_region ?_  -- R15 ref.go:113
      refine gl_ops 1 [(0, .pointer (some ⟨xb, 0, none⟩)), (1, .int .i64 1), (2, .string (bs nm)), (3, .slice Ap p.length cp), (4, .int .i64 n), (12, .pointer (some ⟨b3, 0, none⟩)), (15, .bool true), (84, .int .i64 1)] (by kernel_rfl) ?_
      refine gl_done rfl ?_
      refine sw_next ?_
      refine sw_block ?_
      refine sw_seq ?_
      refine sw_region ?_  -- R16 ref.go:114
      refine gl_ops 2 [(0, .pointer (some ⟨xb, 0, none⟩)), (1, .int .i64 1), (2, .string (bs nm)), (3, .slice Ap p.length cp), (4, .int .i64 n), (12, .pointer (some ⟨b3, 0, none⟩)), (15, .bool true), (84, .int .i64 1), (85, .bool false)] (by kernel_rfl) ?_
      refine gl_done rfl ?_
      refine sw_next ?_
      refine sw_false rfl rfl ?_
      refine sw_seq ?_
      refine sw_region ?_  -- R18 ref.go:116
      refine gl_ops 2 [(0, .pointer (some ⟨xb, 0, none⟩)), (1, .int .i64 1), (2, .string (bs nm)), (3, .slice Ap p.length cp), (4, .int .i64 n), (12, .pointer (some ⟨b3, 0, none⟩)), (15, .bool true), (84, .int .i64 1), (94, .bool true)] (by kernel_rfl) ?_
      refine gl_done rfl ?_
      refine sw_next ?_
      refine sw_true rfl rfl ?_
      refine sw_region ?_  -- R19 ref.go:117
      refine gl_ops 1 [(0, .pointer (some ⟨xb, 0, none⟩)), (1, .int .i64 1), (2, .string (bs nm)), (12, .pointer (some ⟨b3, 0, none⟩)), (15, .bool true), (96, .pointer (some ⟨b3, 1, none⟩))] (by kernel_rfl) ?_
      refine gl_q rfl rfl rfl (rd_loadK 2 (by kernel_rfl) hH rfl rfl rfl) ?_
      refine gl_q rfl rfl rfl (rd_len (e := 5) (by kernel_rfl) rfl) ?_
      refine gl_ops 1 [(0, .pointer (some ⟨xb, 0, none⟩)), (1, .int .i64 1), (2, .string (bs nm)), (12, .pointer (some ⟨b3, 0, none⟩)), (15, .bool true), (98, .int .i64 ((b.length : Nat) : Int)), (99, .pointer (some ⟨b3, 2, none⟩))] (by kernel_rfl) ?_
      refine gl_st (st_storeK (v := .int .i64 ((b.length : Nat) : Int)) 2 rfl rfl rfl hH rfl rfl rfl (by kernel_rfl) rfl (by simp) ?_)
      clear hH; intro w16 hH
      refine gl_done rfl ?_
      refine bkN ?_
      refine sw_next ?_
      refine sw_seq ?_
      refine sw_region ?_  -- R26 ref.go:125
      refine gl_ops 2 [(0, .pointer (some ⟨xb, 0, none⟩)), (2, .string (bs nm)), (12, .pointer (some ⟨b3, 0, none⟩)), (15, .bool true), (124, .bool false)] (by kernel_rfl) ?_
      refine gl_done rfl ?_
      refine sw_next ?_
      refine sw_false rfl rfl ?_
      refine sw_region ?_  -- R28 ref.go:128
      refine gl_ops 1 [(12, .pointer (some ⟨b3, 0, none⟩)), (15, .bool true), (128, .pointer (some ⟨xb, 0, none⟩))] (by kernel_rfl) ?_
      refine gl_q rfl rfl rfl (rd_loadKA (m := 3) 2 (by kernel_rfl) hH rfl rfl (by kernel_rfl) [.string (bs nm), .slice Af b.length cf, .int .i64 ((b.length : Nat) : Int)] rfl rfl) ?_
      replace hH : Hp w w16 _ _ [.row (.slice Ar L.length cr) 89 3 L.length (rowC filC L), filRs L, .blk b3 89 [.string (bs nm), .slice Af b.length cf, .int .i64 ((b.length : Nat) : Int)], .blk xb 87 [.slice Ar L.length cr, .bool D2.off, .int .i64 (actsI D2.ar), .int .i64 part]] := hH
      replace hH := hH.pick [3, 0, 1, 2] (by kernel_rfl) (os' := [.blk xb 87 [.slice Ar L.length cr, .bool D2.off, .int .i64 (actsI D2.ar), .int .i64 part], .row (.slice Ar L.length cr) 89 3 L.length (rowC filC L), filRs L, .blk b3 89 [.string (bs nm), .slice Af b.length cf, .int .i64 ((b.length : Nat) : Int)]]) (by kernel_rfl)
      replace hH : Hp w w16 _ _ ([.blk xb 87 [.slice Ar L.length cr, .bool D2.off, .int .i64 (actsI D2.ar), .int .i64 part], .row (.slice Ar L.length cr) 89 3 L.length (rowC filC L)] ++ [filRs L, .blk b3 89 [.string (bs nm), .slice Af b.length cf, .int .i64 ((b.length : Nat) : Int)]]) := hH
      refine gl_st (st_call rfl rfl rfl (by kernel_rfl) rfl (RSet_ct xb _ L (⟨nm, b, b.length⟩, Value.slice Af b.length cf) _ _ _ _ hH.mine ⟨_, _, _, rfl⟩ hV (by omega)) ?_)
      rintro _ w17 ⟨rv2, rfl, hF18⟩
      replace hH := hH.turns hF18; clear hF18
      replace hH : Hp w w17 _ _ [filRs L, .blk b3 89 [.string (bs nm), .slice Af b.length cf, .int .i64 ((b.length : Nat) : Int)], .blk xb 87 [rv2, .bool D2.off, .int .i64 (actsI D2.ar), .int .i64 part], lstO rv2 (setL L (⟨nm, b, b.length⟩, Value.slice Af b.length cf))] := hH
      refine gl_done rfl ?_
      refine sw_next ?_
      refine sw_seq ?_
      refine sw_seq ?_
      refine sw_region ?_  -- R29 ref.go:131
      refine gl_ops 1 [(131, .bool true)] (by kernel_rfl) ?_
      refine gl_done rfl ?_
      refine sw_next ?_
      refine sw_true rfl rfl ?_
      refine sw_seq ?_
      refine sw_region ?_  -- R30 ref.go:132
      refine gl_ops 1 [(10, .int .i64 80)] (by kernel_rfl) ?_
      refine gl_done rfl ?_
      refine sw_next ?_
      refine sw_ret ?_
      refine thR ?_
      refine ret1 rfl rfl  ?_
      replace hH := rs_same (g := (⟨nm, b, b.length⟩, Value.slice Af b.length cf)) hlt hq rfl hH
      replace hH : Hp w w17 _ _ [filRs (setL L (⟨nm, b, b.length⟩, Value.slice Af b.length cf)), .blk b3 89 [.string (bs nm), .slice Af b.length cf, .int .i64 ((b.length : Nat) : Int)], .blk xb 87 [rv2, .bool D2.off, .int .i64 (actsI D2.ar), .int .i64 part], lstO rv2 (setL L (⟨nm, b, b.length⟩, Value.slice Af b.length cf))] := hH
      replace hH := hH.pick [2, 3, 0, 1] (by kernel_rfl) (os' := [.blk xb 87 [rv2, .bool D2.off, .int .i64 (actsI D2.ar), .int .i64 part], lstO rv2 (setL L (⟨nm, b, b.length⟩, Value.slice Af b.length cf)), filRs (setL L (⟨nm, b, b.length⟩, Value.slice Af b.length cf)), .blk b3 89 [.string (bs nm), .slice Af b.length cf, .int .i64 ((b.length : Nat) : Int)]]) (by kernel_rfl)
      replace hH := (hH.sublist (.cons_cons _ (.cons_cons _ (.cons_cons _ (List.nil_sublist _)))))
      replace hH : Hp w w17 _ _ [.blk xb 87 [rv2, .bool D2.off, .int .i64 (actsI D2.ar), .int .i64 part], lstO rv2 (setL L (⟨nm, b, b.length⟩, Value.slice Af b.length cf)), filRs (setL L (⟨nm, b, b.length⟩, Value.slice Af b.length cf))] := hH
      exact rfin_do (kind := 1) (th := true) (L' := setL L (⟨nm, b, b.length⟩, Value.slice Af b.length cf)) (rv' := rv2) (p) 80 (by simp) rfl hm0 (fun h => absurd h.1 (by decide)) hcut (.inr (.inr (by rw [hpt]; omega))) (by simp) (by rw [setL_fs hF hG.srt]; unfold doF; rw [hold] <;> rfl) ((hH.close (r := [])).turned)
    try simp only [decide_eq_false_iff_not, beq_eq_false_iff_ne, bne_eq_false_iff_eq, ne_eq, Decidable.not_not, Int.not_lt, Int.not_le, Bool.not_eq_false', beq_iff_eq, bne_iff_ne, decide_eq_true_eq] at hc6
    have hnrun : ¬ modI part 2 = 1 := by omega
    refine sw_skip ?_
    refine sw_next ?_
    refine sw_seq ?_
    refine sw_seq ?_
    refine sw_region ?_  -- R29 ref.go:131
    refine gl_ops 1 [(131, .bool true)] (by kernel_rfl) ?_
    refine gl_done rfl ?_
    refine sw_next ?_
    refine sw_true rfl rfl ?_
    refine sw_seq ?_
    refine sw_region ?_  -- R30 ref.go:132
    refine gl_ops 1 [(10, .int .i64 80)] (by kernel_rfl) ?_
    refine gl_done rfl ?_
    refine sw_next ?_
    refine sw_ret ?_
    refine thR ?_
    refine ret1 rfl rfl  ?_
    replace hH : Hp w w14 _ _ [.row (.slice Ar L.length cr) 89 3 L.length (rowC filC L), filRs L, .blk b3 89 [.string (bs nm), .slice Af b.length cf, .int .i64 ((sr : Nat) : Int)], .blk xb 87 [.slice Ar L.length cr, .bool D2.off, .int .i64 (actsI D2.ar), .int .i64 part]] := hH
    replace hH := hH.pick [3, 0, 1, 2] (by kernel_rfl) (os' := [.blk xb 87 [.slice Ar L.length cr, .bool D2.off, .int .i64 (actsI D2.ar), .int .i64 part], .row (.slice Ar L.length cr) 89 3 L.length (rowC filC L), filRs L, .blk b3 89 [.string (bs nm), .slice Af b.length cf, .int .i64 ((sr : Nat) : Int)]]) (by kernel_rfl)
    replace hH := (hH.sublist (.cons_cons _ (.cons_cons _ (.cons_cons _ (List.nil_sublist _)))))
    replace hH : Hp w w14 _ _ [.blk xb 87 [.slice Ar L.length cr, .bool D2.off, .int .i64 (actsI D2.ar), .int .i64 part], .row (.slice Ar L.length cr) 89 3 L.length (rowC filC L), filRs L] := hH
    exact rfin_not (kind := 1) (th := true) hF 80 (by simp) rfl hm0 (fun h => absurd h.1 (by decide)) hcut (by rw [hpt]; simp [hnrun]) ((hH.close (r := [])).turned)
  refine gl_cv 15 (.bool false) (by rw [hg4]) rfl ?_
  try simp only [decide_eq_false_iff_not, beq_eq_false_iff_ne, bne_eq_false_iff_eq, ne_eq, Decidable.not_not, Int.not_lt, Int.not_le, Bool.not_eq_false', beq_iff_eq, bne_iff_ne, decide_eq_true_eq] at hg4
  subst hg4
  refine gl_ops 3 [(0, .pointer (some ⟨xb, 0, none⟩)), (1, .int .i64 1), (2, .string (bs nm)), (3, .slice Ap p.length cp), (4, .int .i64 n), (12, .pointer (some ⟨b3, 0, none⟩)), (14, .int .i64 part), (15, .bool false), (65, .bool false)] (by kernel_rfl) ?_
  refine gl_done rfl ?_
  refine sw_next ?_
  refine sw_false rfl rfl ?_
  refine sw_skip ?_
  refine sw_next ?_
  refine sw_seq ?_
  refine sw_seq ?_
  refine sw_region ?_  -- R14 ref.go:112
  refine gl_ops 11 [(0, .pointer (some ⟨xb, 0, none⟩)), (1, .int .i64 1), (2, .string (bs nm)), (3, .slice Ap p.length cp), (4, .int .i64 n), (12, .pointer (some ⟨b3, 0, none⟩)), (15, .bool false), (83, .bool true)] (by kernel_rfl) ?_
  refine gl_done rfl ?_
  refine sw_next ?_
  refine sw_true rfl rfl ?_
  refine sw_seq ?_
  refine sw_seq ?_
  refine sw_region ?_  -- R15 ref.go:113
  refine gl_ops 1 [(0, .pointer (some ⟨xb, 0, none⟩)), (1, .int .i64 1), (2, .string (bs nm)), (3, .slice Ap p.length cp), (4, .int .i64 n), (12, .pointer (some ⟨b3, 0, none⟩)), (15, .bool false), (84, .int .i64 1)] (by kernel_rfl) ?_
  refine gl_done rfl ?_
  refine sw_next ?_
  refine sw_block ?_
  refine sw_seq ?_
  refine sw_region ?_  -- R16 ref.go:114
  refine gl_ops 2 [(0, .pointer (some ⟨xb, 0, none⟩)), (1, .int .i64 1), (2, .string (bs nm)), (3, .slice Ap p.length cp), (4, .int .i64 n), (12, .pointer (some ⟨b3, 0, none⟩)), (15, .bool false), (84, .int .i64 1), (85, .bool false)] (by kernel_rfl) ?_
  refine gl_done rfl ?_
  refine sw_next ?_
  refine sw_false rfl rfl ?_
  refine sw_seq ?_
  refine sw_region ?_  -- R18 ref.go:116
  refine gl_ops 2 [(0, .pointer (some ⟨xb, 0, none⟩)), (1, .int .i64 1), (2, .string (bs nm)), (3, .slice Ap p.length cp), (4, .int .i64 n), (12, .pointer (some ⟨b3, 0, none⟩)), (15, .bool false), (84, .int .i64 1), (94, .bool true)] (by kernel_rfl) ?_
  refine gl_done rfl ?_
  refine sw_next ?_
  refine sw_true rfl rfl ?_
  refine sw_region ?_  -- R19 ref.go:117
  refine gl_ops 1 [(0, .pointer (some ⟨xb, 0, none⟩)), (1, .int .i64 1), (2, .string (bs nm)), (12, .pointer (some ⟨b3, 0, none⟩)), (15, .bool false), (96, .pointer (some ⟨b3, 1, none⟩))] (by kernel_rfl) ?_
  refine gl_q rfl rfl rfl (rd_loadK 2 (by kernel_rfl) hH rfl rfl rfl) ?_
  refine gl_q rfl rfl rfl (rd_len (e := 5) (by kernel_rfl) rfl) ?_
  refine gl_ops 1 [(0, .pointer (some ⟨xb, 0, none⟩)), (1, .int .i64 1), (2, .string (bs nm)), (12, .pointer (some ⟨b3, 0, none⟩)), (15, .bool false), (98, .int .i64 ((b.length : Nat) : Int)), (99, .pointer (some ⟨b3, 2, none⟩))] (by kernel_rfl) ?_
  refine gl_st (st_storeK (v := .int .i64 ((b.length : Nat) : Int)) 2 rfl rfl rfl hH rfl rfl rfl (by kernel_rfl) rfl (by simp) ?_)
  clear hH; intro w19 hH
  refine gl_done rfl ?_
  refine bkN ?_
  refine sw_next ?_
  refine sw_seq ?_
  refine sw_region ?_  -- R26 ref.go:125
  refine gl_ops 2 [(0, .pointer (some ⟨xb, 0, none⟩)), (2, .string (bs nm)), (12, .pointer (some ⟨b3, 0, none⟩)), (15, .bool false), (124, .bool false)] (by kernel_rfl) ?_
  refine gl_done rfl ?_
  refine sw_next ?_
  refine sw_false rfl rfl ?_
  refine sw_region ?_  -- R28 ref.go:128
  refine gl_ops 1 [(12, .pointer (some ⟨b3, 0, none⟩)), (15, .bool false), (128, .pointer (some ⟨xb, 0, none⟩))] (by kernel_rfl) ?_
  refine gl_q rfl rfl rfl (rd_loadKA (m := 3) 2 (by kernel_rfl) hH rfl rfl (by kernel_rfl) [.string (bs nm), .slice Af b.length cf, .int .i64 ((b.length : Nat) : Int)] rfl rfl) ?_
  replace hH : Hp w w19 _ _ [.row (.slice Ar L.length cr) 89 3 L.length (rowC filC L), filRs L, .blk b3 89 [.string (bs nm), .slice Af b.length cf, .int .i64 ((b.length : Nat) : Int)], .blk xb 87 [.slice Ar L.length cr, .bool D2.off, .int .i64 (actsI D2.ar), .int .i64 part]] := hH
  replace hH := hH.pick [3, 0, 1, 2] (by kernel_rfl) (os' := [.blk xb 87 [.slice Ar L.length cr, .bool D2.off, .int .i64 (actsI D2.ar), .int .i64 part], .row (.slice Ar L.length cr) 89 3 L.length (rowC filC L), filRs L, .blk b3 89 [.string (bs nm), .slice Af b.length cf, .int .i64 ((b.length : Nat) : Int)]]) (by kernel_rfl)
  replace hH : Hp w w19 _ _ ([.blk xb 87 [.slice Ar L.length cr, .bool D2.off, .int .i64 (actsI D2.ar), .int .i64 part], .row (.slice Ar L.length cr) 89 3 L.length (rowC filC L)] ++ [filRs L, .blk b3 89 [.string (bs nm), .slice Af b.length cf, .int .i64 ((b.length : Nat) : Int)]]) := hH
  refine gl_st (st_call rfl rfl rfl (by kernel_rfl) rfl (RSet_ct xb _ L (⟨nm, b, b.length⟩, Value.slice Af b.length cf) _ _ _ _ hH.mine ⟨_, _, _, rfl⟩ hV (by omega)) ?_)
  rintro _ w20 ⟨rv2, rfl, hF21⟩
  replace hH := hH.turns hF21; clear hF21
  replace hH : Hp w w20 _ _ [filRs L, .blk b3 89 [.string (bs nm), .slice Af b.length cf, .int .i64 ((b.length : Nat) : Int)], .blk xb 87 [rv2, .bool D2.off, .int .i64 (actsI D2.ar), .int .i64 part], lstO rv2 (setL L (⟨nm, b, b.length⟩, Value.slice Af b.length cf))] := hH
  refine gl_done rfl ?_
  refine sw_next ?_
  refine sw_seq ?_
  refine sw_seq ?_
  refine sw_region ?_  -- R29 ref.go:131
  refine gl_ops 1 [(131, .bool false)] (by kernel_rfl) ?_
  refine gl_done rfl ?_
  refine sw_next ?_
  refine sw_false rfl rfl ?_
  refine sw_skip ?_
  refine sw_next ?_
  refine sw_seq ?_
  refine sw_region ?_  -- R31 ref.go:134
  refine gl_ops 1 [(10, .int .i64 0)] (by kernel_rfl) ?_
  refine gl_done rfl ?_
  refine sw_next ?_
  refine sw_ret ?_
  refine ret1 rfl rfl  ?_
  replace hH := rs_same (g := (⟨nm, b, b.length⟩, Value.slice Af b.length cf)) hlt hq rfl hH
  replace hH : Hp w w20 _ _ [filRs (setL L (⟨nm, b, b.length⟩, Value.slice Af b.length cf)), .blk b3 89 [.string (bs nm), .slice Af b.length cf, .int .i64 ((b.length : Nat) : Int)], .blk xb 87 [rv2, .bool D2.off, .int .i64 (actsI D2.ar), .int .i64 part], lstO rv2 (setL L (⟨nm, b, b.length⟩, Value.slice Af b.length cf))] := hH
  replace hH := hH.pick [2, 3, 0, 1] (by kernel_rfl) (os' := [.blk xb 87 [rv2, .bool D2.off, .int .i64 (actsI D2.ar), .int .i64 part], lstO rv2 (setL L (⟨nm, b, b.length⟩, Value.slice Af b.length cf)), filRs (setL L (⟨nm, b, b.length⟩, Value.slice Af b.length cf)), .blk b3 89 [.string (bs nm), .slice Af b.length cf, .int .i64 ((b.length : Nat) : Int)]]) (by kernel_rfl)
  replace hH := (hH.sublist (.cons_cons _ (.cons_cons _ (.cons_cons _ (List.nil_sublist _)))))
  replace hH : Hp w w20 _ _ [.blk xb 87 [rv2, .bool D2.off, .int .i64 (actsI D2.ar), .int .i64 part], lstO rv2 (setL L (⟨nm, b, b.length⟩, Value.slice Af b.length cf)), filRs (setL L (⟨nm, b, b.length⟩, Value.slice Af b.length cf))] := hH
  exact rfin_do (kind := 1) (th := true) (L' := setL L (⟨nm, b, b.length⟩, Value.slice Af b.length cf)) (rv' := rv2) (p) 0 (by simp) rfl hm0 (fun h => absurd h.1 (by decide)) hcut (.inl rfl) (by simp) (by rw [setL_fs hF hG.srt]; unfold doF; rw [hold] <;> rfl) ((hH.close (r := [])).turned)
theorem RDo2_ct (xb : Nat) (rv : Value) (D : Dsk) (part : Int) (L : FV) (nm : List UInt8) (vp : Value) (p : List UInt8) (n : Int) (M : Nat) (w : World) (hM : Mine w (ownR xb rv D part L)) (hF : L.map (·.1) = D.fs) (hA : ArOk D.ar) (hP : PartOk D.ar part) (hG : Good D.fs M) (hMM : M ≤ 4194304) (hN : L.length ≤ 900000) (hs : nm.length ≤ 140737488355328) (hp : RB (off w (blksOf (ownR xb rv D part L))) vp p) (hpl : p.length ≤ 1048576) :
    Fun Tryd.prog 70 [.pointer (some ⟨xb, 0, none⟩), .int .i64 2, .string (bs nm), vp, .int .i64 n] w fun v w' => RPost xb rv D part L (doD D 2 nm p n) w v w' := by
  obtain ⟨Ar, cr, rfl, hcr1, hcr2⟩ := (Row.of_own (hM.1 _ (List.mem_singleton.2 rfl) (lstO rv L) (by simp [rdkO]))).form
  have hcr3 := hcr2
  simp only [maxLen] at hcr3
  have hV : SlV L := filRs_sl (hM.1 _ (List.mem_singleton.2 rfl) (filRs L) (by simp [rdkO]))
  obtain ⟨Ap, cp, rfl, hp1, hp2⟩ := hp.row.form
  refine fun_of_sw Tryd.func70 rfl 132 rfl rfl ?_
  have hH : Hp w w (off w (blksOf (ownR xb (.slice Ar L.length cr) D part L))) (blksOf (ownR xb (.slice Ar L.length cr) D part L)) (rdkO xb (.slice Ar L.length cr) D.off (actsI D.ar) part L ++ []) := (Hp.start_mine hM).open_
  replace hH : Hp w w _ _ [.blk xb 87 [.slice Ar L.length cr, .bool D.off, .int .i64 (actsI D.ar), .int .i64 part], .row (.slice Ar L.length cr) 89 3 L.length (rowC filC L), filRs L] := hH
  refine sw_seq ?_
  refine sw_region ?_  -- R0 ref.go:94
  refine gl_ops 1 [(0, .pointer (some ⟨xb, 0, none⟩)), (1, .int .i64 2), (2, .string (bs nm)), (3, .slice Ap p.length cp), (4, .int .i64 n)] (by kernel_rfl) ?_
  refine gl_done rfl ?_
  refine sw_next ?_
  refine sw_seq ?_
  refine sw_region ?_  -- R1 ref.go:95
  refine gl_ops 8 [(0, .pointer (some ⟨xb, 0, none⟩)), (1, .int .i64 2), (2, .string (bs nm)), (3, .slice Ap p.length cp), (4, .int .i64 n), (16, .pointer (some ⟨xb, 0, none⟩)), (17, .string (bs nm)), (23, .bool false)] (by kernel_rfl) ?_
  refine gl_st (st_call rfl rfl rfl (by kernel_rfl) rfl (RMay18_ct xb _ L D nm false _ (hH.blk_cell 0 rfl rfl) (hH.blk_cell 0 rfl rfl) (hH.row_reads 1 rfl) hF hs) ?_)
  rintro _ w1 ⟨rfl, hF2⟩
  replace hH := hH.call hF2; clear hF2
  refine gl_ops 1 [(0, .pointer (some ⟨xb, 0, none⟩)), (1, .int .i64 2), (2, .string (bs nm)), (3, .slice Ap p.length cp), (4, .int .i64 n), (11, .int .i64 ((mayE D nm false : Nat) : Int))] (by kernel_rfl) ?_
  refine gl_done rfl ?_
  refine sw_next ?_
  refine sw_seq ?_
  refine sw_seq ?_
  refine sw_region ?_  -- R2 ref.go:96
  refine gl_ops 2 [(0, .pointer (some ⟨xb, 0, none⟩)), (1, .int .i64 2), (2, .string (bs nm)), (3, .slice Ap p.length cp), (4, .int .i64 n), (11, .int .i64 ((mayE D nm false : Nat) : Int)), (26, .bool (((mayE D nm false : Nat) : Int) != (0 : Int)))] (by kernel_rfl) ?_
  refine gl_done rfl ?_
  refine sw_next ?_
  refine sw_cond rfl rfl (fun hc1 => ?_) (fun hc1 => ?_)
  ·
    try simp only [decide_eq_true_eq, beq_iff_eq, bne_iff_ne, ne_eq, Bool.not_eq_true', beq_eq_false_iff_ne, bne_eq_false_iff_eq, decide_eq_false_iff_not, Int.not_lt, Int.not_le] at hc1
    refine sw_seq ?_
    refine sw_region ?_  -- R3 ref.go:97
    refine gl_ops 2 [(10, .int .i64 ((mayE D nm false : Nat) : Int))] (by kernel_rfl) ?_
    refine gl_done rfl ?_
    refine sw_next ?_
    refine sw_ret ?_
    refine thR ?_
    refine ret1 rfl rfl  ?_
    replace hH := (hH.sublist (.cons_cons _ (.cons_cons _ (.cons_cons _ (List.nil_sublist _)))))
    replace hH : Hp w w1 _ _ [.blk xb 87 [.slice Ar L.length cr, .bool D.off, .int .i64 (actsI D.ar), .int .i64 part], .row (.slice Ar L.length cr) 89 3 L.length (rowC filC L), filRs L] := hH
    exact rfin_err (kind := 2) (th := false) hF rfl (by omega) ((hH.close (r := [])).turned)
  try simp only [decide_eq_false_iff_not, beq_eq_false_iff_ne, bne_eq_false_iff_eq, ne_eq, Decidable.not_not, Int.not_lt, Int.not_le, Bool.not_eq_false', beq_iff_eq, bne_iff_ne, decide_eq_true_eq] at hc1
  have hm0 : mayE D nm false = 0 := by omega
  refine sw_skip ?_
  refine sw_next ?_
  refine sw_seq ?_
  refine sw_region ?_  -- R4 ref.go:99
  refine gl_ops 2 [(0, .pointer (some ⟨xb, 0, none⟩)), (1, .int .i64 2), (2, .string (bs nm)), (3, .slice Ap p.length cp), (4, .int .i64 n), (29, .agg #[.string (bs nm), .slice none 0 0, .int .i64 0])] (by kernel_rfl) ?_
  refine gl_st (st_allocH rfl rfl rfl (cs := [.string (bs []), .slice none 0 0, .int .i64 0]) (by kernel_rfl) hH ?_)
  clear hH; intro b3 w4 hH
  refine gl_st (st_storeKA (vs := [.string (bs nm), .slice none 0 0, .int .i64 0]) 3 rfl rfl rfl hH rfl rfl (by kernel_rfl) (by kernel_rfl) rfl (by simp) [.string (bs nm), .slice none 0 0, .int .i64 0] rfl ?_)
  clear hH; intro w5 hH
  refine gl_done rfl ?_
  refine sw_next ?_
  refine sw_seq ?_
  refine sw_region ?_  -- R5 ref.go:100
  refine gl_ops 2 [(0, .pointer (some ⟨xb, 0, none⟩)), (1, .int .i64 2), (2, .string (bs nm)), (3, .slice Ap p.length cp), (4, .int .i64 n), (12, .pointer (some ⟨b3, 0, none⟩)), (30, .pointer (some ⟨xb, 0, none⟩)), (31, .string (bs nm))] (by kernel_rfl) ?_
  refine gl_st (st_call rfl rfl rfl (by kernel_rfl) rfl (RFind_ct xb _ L nm _ (hH.blk_cell 0 rfl rfl) (hH.row_reads 1 rfl)) ?_)
  rintro _ w6 ⟨rfl, hF7⟩
  replace hH := hH.call hF7; clear hF7
  refine gl_ops 1 [(0, .pointer (some ⟨xb, 0, none⟩)), (1, .int .i64 2), (2, .string (bs nm)), (3, .slice Ap p.length cp), (4, .int .i64 n), (12, .pointer (some ⟨b3, 0, none⟩)), (13, .int .i64 (fndZ L nm))] (by kernel_rfl) ?_
  refine gl_done rfl ?_
  refine sw_next ?_
  refine sw_seq ?_
  refine sw_seq ?_
  refine sw_region ?_  -- R6 ref.go:101
  refine gl_ops 2 [(0, .pointer (some ⟨xb, 0, none⟩)), (1, .int .i64 2), (2, .string (bs nm)), (3, .slice Ap p.length cp), (4, .int .i64 n), (12, .pointer (some ⟨b3, 0, none⟩)), (13, .int .i64 (fndZ L nm)), (34, .bool (decide ((fndZ L nm) ≥ (0 : Int))))] (by kernel_rfl) ?_
  refine gl_done rfl ?_
  refine sw_next ?_
  refine sw_cond rfl rfl (fun hc2 => ?_) (fun hc2 => ?_)
  ·
    try simp only [decide_eq_true_eq, beq_iff_eq, bne_iff_ne, ne_eq, Bool.not_eq_true', beq_eq_false_iff_ne, bne_eq_false_iff_eq, decide_eq_false_iff_not, Int.not_lt, Int.not_le] at hc2
    have hlt : fndI L nm < L.length := by refine Classical.byContradiction fun h9 => ?_; unfold fndZ at hc2; rw [if_neg h9] at hc2; omega
    obtain ⟨b, sr, fv, hq, hold, hmem⟩ := rdk_find hF hlt
    obtain ⟨Af, cf, rfl, hf1, hf2⟩ := (filRs_rb3 hH 2 rfl hq).row.form
    have hbM := hG.short _ hmem
    have hsr := hG.sure _ hmem
    simp only at hbM hsr
    refine sw_cv 13 (.int .i64 ((fndI L nm : Nat) : Int)) (by unfold fndZ; rw [if_pos hlt]) rfl ?_
    refine sw_region ?_  -- R7 ref.go:102
    refine gl_ops 3 [(0, .pointer (some ⟨xb, 0, none⟩)), (1, .int .i64 2), (2, .string (bs nm)), (3, .slice Ap p.length cp), (4, .int .i64 n), (12, .pointer (some ⟨b3, 0, none⟩)), (13, .int .i64 ((fndI L nm : Nat) : Int)), (37, .pointer (some ⟨xb, 0, none⟩))] (by kernel_rfl) ?_
    refine gl_q rfl rfl rfl (rd_loadK 0 (by kernel_rfl) hH rfl rfl rfl) ?_
    obtain ⟨b9, hb8, hi10⟩ := hH.row_idx 1 rfl (fndI L nm) (by omega)
    refine gl_ops 1 [(0, .pointer (some ⟨xb, 0, none⟩)), (1, .int .i64 2), (2, .string (bs nm)), (3, .slice Ap p.length cp), (4, .int .i64 n), (12, .pointer (some ⟨b3, 0, none⟩)), (38, .slice Ar L.length cr), (39, .int .i64 ((fndI L nm : Nat) : Int))] (by kernel_rfl) ?_
    refine gl_q rfl rfl rfl (rd_idx (e := 89) (m := 3) (by kernel_rfl) (by kernel_rfl) rfl rfl hi10) ?_
    refine gl_q rfl rfl rfl (rd_loadOA (q := 3) 1 (by kernel_rfl) hH rfl rfl hb8 (by kernel_rfl) [.string (bs nm), .slice Af b.length cf, .int .i64 ((sr : Nat) : Int)] rfl (rowC_allO filC_len hq _ rfl)) ?_
    refine gl_st (st_storeKA (vs := [.string (bs nm), .slice Af b.length cf, .int .i64 ((sr : Nat) : Int)]) 3 rfl rfl rfl hH rfl rfl (by kernel_rfl) (by kernel_rfl) rfl (by simp) [.string (bs nm), .slice Af b.length cf, .int .i64 ((sr : Nat) : Int)] rfl ?_)
    clear hH; intro w11 hH
    refine gl_done rfl ?_
    refine sw_next ?_
    refine sw_seq ?_
    refine sw_seq ?_
    refine sw_region ?_  -- R8 ref.go:104
    refine gl_ops 13 [(0, .pointer (some ⟨xb, 0, none⟩)), (1, .int .i64 2), (2, .string (bs nm)), (3, .slice Ap p.length cp), (4, .int .i64 n), (12, .pointer (some ⟨b3, 0, none⟩)), (54, .bool false)] (by kernel_rfl) ?_
    refine gl_done rfl ?_
    refine sw_next ?_
    refine sw_false rfl rfl ?_
    refine sw_skip ?_
    refine sw_next ?_
    refine sw_seq ?_
    refine sw_region ?_  -- R10 ref.go:107
    refine gl_ops 3 [(0, .pointer (some ⟨xb, 0, none⟩)), (1, .int .i64 2), (2, .string (bs nm)), (3, .slice Ap p.length cp), (4, .int .i64 n), (12, .pointer (some ⟨b3, 0, none⟩)), (57, .pointer (some ⟨xb, 3, none⟩))] (by kernel_rfl) ?_
    refine gl_q rfl rfl rfl (rd_loadK 0 (by kernel_rfl) hH rfl rfl rfl) ?_
    refine gl_ops 1 [(0, .pointer (some ⟨xb, 0, none⟩)), (1, .int .i64 2), (2, .string (bs nm)), (3, .slice Ap p.length cp), (4, .int .i64 n), (12, .pointer (some ⟨b3, 0, none⟩)), (14, .int .i64 part)] (by kernel_rfl) ?_
    refine gl_done rfl ?_
    refine sw_next ?_
    refine sw_seq ?_
    refine sw_region ?_  -- R11 ref.go:108
    obtain ⟨D2, cu, pt, hcut⟩ : ∃ D2 cu pt, cutD D = (D2, cu, pt) := ⟨_, _, _, rfl⟩
    refine gl_ops 1 [(0, .pointer (some ⟨xb, 0, none⟩)), (1, .int .i64 2), (2, .string (bs nm)), (3, .slice Ap p.length cp), (4, .int .i64 n), (12, .pointer (some ⟨b3, 0, none⟩)), (14, .int .i64 part), (59, .pointer (some ⟨xb, 0, none⟩))] (by kernel_rfl) ?_
    replace hH : Hp w w11 _ _ ([.blk xb 87 [.slice Ar L.length cr, .bool D.off, .int .i64 (actsI D.ar), .int .i64 part]] ++ [.row (.slice Ar L.length cr) 89 3 L.length (rowC filC L), filRs L, .blk b3 89 [.string (bs nm), .slice Af b.length cf, .int .i64 ((sr : Nat) : Int)]]) := hH
    refine gl_st (st_call rfl rfl rfl (by kernel_rfl) rfl (RAct_ct xb _ D D2 cu pt part _ hcut hA hH.mine) ?_)
    rintro _ w12 ⟨rfl, hF13⟩
    replace hH := hH.turns hF13; clear hF13
    replace hH : Hp w w12 _ _ [.row (.slice Ar L.length cr) 89 3 L.length (rowC filC L), filRs L, .blk b3 89 [.string (bs nm), .slice Af b.length cf, .int .i64 ((sr : Nat) : Int)], .blk xb 87 [.slice Ar L.length cr, .bool D2.off, .int .i64 (actsI D2.ar), .int .i64 part]] := hH
    refine gl_ops 1 [(0, .pointer (some ⟨xb, 0, none⟩)), (1, .int .i64 2), (2, .string (bs nm)), (3, .slice Ap p.length cp), (4, .int .i64 n), (12, .pointer (some ⟨b3, 0, none⟩)), (14, .int .i64 part), (15, .bool cu)] (by kernel_rfl) ?_
    refine gl_done rfl ?_
    refine sw_next ?_
    refine sw_seq ?_
    refine sw_seq ?_
    refine sw_region ?_  -- R12 ref.go:109
    refine gl_ops 2 [(0, .pointer (some ⟨xb, 0, none⟩)), (1, .int .i64 2), (2, .string (bs nm)), (3, .slice Ap p.length cp), (4, .int .i64 n), (12, .pointer (some ⟨b3, 0, none⟩)), (14, .int .i64 part), (15, .bool cu), (62, .bool cu)] (by kernel_rfl) ?_
    refine gl_split 62 (b := cu) rfl (fun hg4 => ?_) (fun hg4 => ?_)
    ·
      refine gl_cv 15 (.bool true) (by rw [hg4]) rfl ?_
      try simp only [decide_eq_true_eq, beq_iff_eq, bne_iff_ne, ne_eq, Bool.not_eq_true', beq_eq_false_iff_ne, bne_eq_false_iff_eq, decide_eq_false_iff_not, Int.not_lt, Int.not_le] at hg4
      subst hg4
      have hpt := cut_part hcut hP rfl
      refine gl_ops 3 [(0, .pointer (some ⟨xb, 0, none⟩)), (1, .int .i64 2), (2, .string (bs nm)), (3, .slice Ap p.length cp), (4, .int .i64 n), (12, .pointer (some ⟨b3, 0, none⟩)), (14, .int .i64 part), (15, .bool true), (65, .bool false)] (by kernel_rfl) ?_
      refine gl_done rfl ?_
      refine sw_next ?_
      refine sw_false rfl rfl ?_
      refine sw_skip ?_
      refine sw_next ?_
      refine sw_seq ?_
      refine sw_seq ?_
      refine sw_region ?_  -- R14 ref.go:112
      refine gl_ops 8 [(0, .pointer (some ⟨xb, 0, none⟩)), (1, .int .i64 2), (2, .string (bs nm)), (3, .slice Ap p.length cp), (4, .int .i64 n), (12, .pointer (some ⟨b3, 0, none⟩)), (15, .bool true), (79, .bool false), (80, .int .i64 part)] (by kernel_rfl) ?_
      refine gl_st (st_call rfl rfl rfl (by kernel_rfl) rfl (RMod_ct part 2 _ (by omega) (by omega)) ?_)
      rintro _ w14 ⟨rfl, hF15⟩
      replace hH := hH.call hF15; clear hF15
      refine gl_ops 2 [(0, .pointer (some ⟨xb, 0, none⟩)), (1, .int .i64 2), (2, .string (bs nm)), (3, .slice Ap p.length cp), (4, .int .i64 n), (12, .pointer (some ⟨b3, 0, none⟩)), (15, .bool true), (83, .bool (((modI part 2 : Nat) : Int) == (1 : Int)))] (by kernel_rfl) ?_
      refine gl_done rfl ?_
      refine sw_next ?_
      refine sw_cond rfl rfl (fun hc6 => ?_) (fun hc6 => ?_)
      ·
        try simp only [decide_eq_true_eq, beq_iff_eq, bne_iff_ne, ne_eq, Bool.not_eq_true', beq_eq_false_iff_ne, bne_eq_false_iff_eq, decide_eq_false_iff_not, Int.not_lt, Int.not_le] at hc6
        refine sw_seq ?_
        refine sw_seq ?_
        refine sw_region ?_  -- R15 ref.go:113
        refine gl_ops 1 [(0, .pointer (some ⟨xb, 0, none⟩)), (1, .int .i64 2), (2, .string (bs nm)), (3, .slice Ap p.length cp), (4, .int .i64 n), (12, .pointer (some ⟨b3, 0, none⟩)), (15, .bool true), (84, .int .i64 2)] (by kernel_rfl) ?_
        refine gl_done rfl ?_
        refine sw_next ?_
        refine sw_block ?_
        refine sw_seq ?_
        refine sw_region ?_  -- R16 ref.go:114
        refine gl_ops 2 [(0, .pointer (some ⟨xb, 0, none⟩)), (1, .int .i64 2), (2, .string (bs nm)), (3, .slice Ap p.length cp), (4, .int .i64 n), (12, .pointer (some ⟨b3, 0, none⟩)), (15, .bool true), (84, .int .i64 2), (85, .bool false)] (by kernel_rfl) ?_
        refine gl_done rfl ?_
        refine sw_next ?_
        refine sw_false rfl rfl ?_
        refine sw_seq ?_
        refine sw_region ?_  -- R18 ref.go:116
        refine gl_ops 2 [(0, .pointer (some ⟨xb, 0, none⟩)), (1, .int .i64 2), (2, .string (bs nm)), (3, .slice Ap p.length cp), (4, .int .i64 n), (12, .pointer (some ⟨b3, 0, none⟩)), (15, .bool true), (84, .int .i64 2), (94, .bool false)] (by kernel_rfl) ?_
        refine gl_done rfl ?_
        refine sw_next ?_
        refine sw_false rfl rfl ?_
        refine sw_seq ?_
        refine sw_region ?_  -- R20 ref.go:118
        refine gl_ops 2 [(0, .pointer (some ⟨xb, 0, none⟩)), (1, .int .i64 2), (2, .string (bs nm)), (3, .slice Ap p.length cp), (4, .int .i64 n), (12, .pointer (some ⟨b3, 0, none⟩)), (15, .bool true), (84, .int .i64 2), (100, .bool true)] (by kernel_rfl) ?_
        refine gl_done rfl ?_
        refine sw_next ?_
        refine sw_true rfl rfl ?_
        refine sw_seq ?_
        refine sw_region ?_  -- R21 ref.go:119
        refine gl_st (st_buildS0 (e := 5) (m := 1) rfl rfl rfl (by kernel_rfl) (by kernel_rfl) hH ?_)
        clear hH; intro b16 w17 hH
        refine gl_ops 1 [(0, .pointer (some ⟨xb, 0, none⟩)), (1, .int .i64 2), (2, .string (bs nm)), (3, .slice Ap p.length cp), (12, .pointer (some ⟨b3, 0, none⟩)), (15, .bool true), (102, .slice (some ⟨b16, 0, none⟩) 0 0), (103, .slice Ap p.length cp)] (by kernel_rfl) ?_
        refine gl_st (st_appH (e := 5) (zv := .int .u8 0) (m := 1) (bytes := 1) 4 rfl rfl rfl (by kernel_rfl) (by kernel_rfl) rfl (by decide) hH rfl rfl rfl (hp.row.mono hH.zin) (bv_one _) (by unfold maxLen; omega) (by omega) ?_)
        clear hH; intro v18 w19 hH
        replace hH := hH.row_eq 4 (l' := p.length) (xs' := bv p) rfl (Nat.zero_add _) (List.nil_append _)
        obtain ⟨A20, c21, rfl, hl22, hm23⟩ := hH.row_form 4 rfl
        refine gl_ops 1 [(0, .pointer (some ⟨xb, 0, none⟩)), (1, .int .i64 2), (2, .string (bs nm)), (3, .slice Ap p.length cp), (12, .pointer (some ⟨b3, 0, none⟩)), (15, .bool true), (104, .slice A20 p.length c21), (105, .pointer (some ⟨b3, 1, none⟩))] (by kernel_rfl) ?_
        refine gl_st (st_storeK (v := .slice A20 p.length c21) 2 rfl rfl rfl hH rfl rfl rfl (by kernel_rfl) rfl (by simp) ?_)
        clear hH; intro w24 hH
        refine gl_done rfl ?_
        refine sw_next ?_
        refine sw_region ?_  -- R22 ref.go:120
        refine gl_ops 1 [(0, .pointer (some ⟨xb, 0, none⟩)), (1, .int .i64 2), (2, .string (bs nm)), (12, .pointer (some ⟨b3, 0, none⟩)), (15, .bool true), (106, .slice Ap p.length cp)] (by kernel_rfl) ?_
        refine gl_q rfl rfl rfl (rd_len (e := 5) (by kernel_rfl) rfl) ?_
        refine gl_ops 1 [(0, .pointer (some ⟨xb, 0, none⟩)), (1, .int .i64 2), (2, .string (bs nm)), (12, .pointer (some ⟨b3, 0, none⟩)), (15, .bool true), (107, .int .i64 ((p.length : Nat) : Int)), (108, .pointer (some ⟨b3, 2, none⟩))] (by kernel_rfl) ?_
        refine gl_st (st_storeK (v := .int .i64 ((p.length : Nat) : Int)) 2 rfl rfl rfl hH rfl rfl rfl (by kernel_rfl) rfl (by simp) ?_)
        clear hH; intro w25 hH
        refine gl_done rfl ?_
        refine bkN ?_
        refine sw_next ?_
        refine sw_seq ?_
        refine sw_region ?_  -- R26 ref.go:125
        refine gl_ops 2 [(0, .pointer (some ⟨xb, 0, none⟩)), (2, .string (bs nm)), (12, .pointer (some ⟨b3, 0, none⟩)), (15, .bool true), (124, .bool false)] (by kernel_rfl) ?_
        refine gl_done rfl ?_
        refine sw_next ?_
        refine sw_false rfl rfl ?_
        refine sw_region ?_  -- R28 ref.go:128
        refine gl_ops 1 [(12, .pointer (some ⟨b3, 0, none⟩)), (15, .bool true), (128, .pointer (some ⟨xb, 0, none⟩))] (by kernel_rfl) ?_
        refine gl_q rfl rfl rfl (rd_loadKA (m := 3) 2 (by kernel_rfl) hH rfl rfl (by kernel_rfl) [.string (bs nm), .slice A20 p.length c21, .int .i64 ((p.length : Nat) : Int)] rfl rfl) ?_
        replace hH : Hp w w25 _ _ [.row (.slice Ar L.length cr) 89 3 L.length (rowC filC L), filRs L, .blk b3 89 [.string (bs nm), .slice A20 p.length c21, .int .i64 ((p.length : Nat) : Int)], .blk xb 87 [.slice Ar L.length cr, .bool D2.off, .int .i64 (actsI D2.ar), .int .i64 part], .row (.slice A20 p.length c21) 5 1 p.length (bv p)] := hH
        replace hH := hH.pick [3, 0, 1, 2, 4] (by kernel_rfl) (os' := [.blk xb 87 [.slice Ar L.length cr, .bool D2.off, .int .i64 (actsI D2.ar), .int .i64 part], .row (.slice Ar L.length cr) 89 3 L.length (rowC filC L), filRs L, .blk b3 89 [.string (bs nm), .slice A20 p.length c21, .int .i64 ((p.length : Nat) : Int)], .row (.slice A20 p.length c21) 5 1 p.length (bv p)]) (by kernel_rfl)
        replace hH : Hp w w25 _ _ ([.blk xb 87 [.slice Ar L.length cr, .bool D2.off, .int .i64 (actsI D2.ar), .int .i64 part], .row (.slice Ar L.length cr) 89 3 L.length (rowC filC L)] ++ [filRs L, .blk b3 89 [.string (bs nm), .slice A20 p.length c21, .int .i64 ((p.length : Nat) : Int)], .row (.slice A20 p.length c21) 5 1 p.length (bv p)]) := hH
        refine gl_st (st_call rfl rfl rfl (by kernel_rfl) rfl (RSet_ct xb _ L (⟨nm, p, p.length⟩, Value.slice A20 p.length c21) _ _ _ _ hH.mine ⟨_, _, _, rfl⟩ hV (by omega)) ?_)
        rintro _ w26 ⟨rv2, rfl, hF27⟩
        replace hH := hH.turns hF27; clear hF27
        replace hH : Hp w w26 _ _ [filRs L, .blk b3 89 [.string (bs nm), .slice A20 p.length c21, .int .i64 ((p.length : Nat) : Int)], .row (.slice A20 p.length c21) 5 1 p.length (bv p), .blk xb 87 [rv2, .bool D2.off, .int .i64 (actsI D2.ar), .int .i64 part], lstO rv2 (setL L (⟨nm, p, p.length⟩, Value.slice A20 p.length c21))] := hH
        refine gl_done rfl ?_
        refine sw_next ?_
        refine sw_seq ?_
        refine sw_seq ?_
        refine sw_region ?_  -- R29 ref.go:131
        refine gl_ops 1 [(131, .bool true)] (by kernel_rfl) ?_
        refine gl_done rfl ?_
        refine sw_next ?_
        refine sw_true rfl rfl ?_
        refine sw_seq ?_
        refine sw_region ?_  -- R30 ref.go:132
        refine gl_ops 1 [(10, .int .i64 80)] (by kernel_rfl) ?_
        refine gl_done rfl ?_
        refine sw_next ?_
        refine sw_ret ?_
        refine thR ?_
        refine ret1 rfl rfl  ?_
        replace hH : Hp w w26 _ _ [filRs L, .blk b3 89 [.string (bs nm), .slice A20 p.length c21, .int .i64 ((p.length : Nat) : Int)], .row (.slice A20 p.length c21) 5 1 p.length (bv p), .blk xb 87 [rv2, .bool D2.off, .int .i64 (actsI D2.ar), .int .i64 part], lstO rv2 (setL L (⟨nm, p, p.length⟩, Value.slice A20 p.length c21))] := hH
        replace hH := hH.pick [2, 0, 1, 3, 4] (by kernel_rfl) (os' := [.row (.slice A20 p.length c21) 5 1 p.length (bv p), filRs L, .blk b3 89 [.string (bs nm), .slice A20 p.length c21, .int .i64 ((p.length : Nat) : Int)], .blk xb 87 [rv2, .bool D2.off, .int .i64 (actsI D2.ar), .int .i64 part], lstO rv2 (setL L (⟨nm, p, p.length⟩, Value.slice A20 p.length c21))]) (by kernel_rfl)
        replace hH : Hp w w26 _ _ (filR (⟨nm, p, p.length⟩, Value.slice A20 p.length c21) :: filRs L :: [.blk b3 89 [.string (bs nm), .slice A20 p.length c21, .int .i64 ((p.length : Nat) : Int)], .blk xb 87 [rv2, .bool D2.off, .int .i64 (actsI D2.ar), .int .i64 part], lstO rv2 (setL L (⟨nm, p, p.length⟩, Value.slice A20 p.length c21))]) := hH
        replace hH := rs_setL hH
        replace hH : Hp w w26 _ _ [filRs (setL L (⟨nm, p, p.length⟩, Value.slice A20 p.length c21)), .blk b3 89 [.string (bs nm), .slice A20 p.length c21, .int .i64 ((p.length : Nat) : Int)], .blk xb 87 [rv2, .bool D2.off, .int .i64 (actsI D2.ar), .int .i64 part], lstO rv2 (setL L (⟨nm, p, p.length⟩, Value.slice A20 p.length c21))] := hH
        replace hH := hH.pick [2, 3, 0, 1] (by kernel_rfl) (os' := [.blk xb 87 [rv2, .bool D2.off, .int .i64 (actsI D2.ar), .int .i64 part], lstO rv2 (setL L (⟨nm, p, p.length⟩, Value.slice A20 p.length c21)), filRs (setL L (⟨nm, p, p.length⟩, Value.slice A20 p.length c21)), .blk b3 89 [.string (bs nm), .slice A20 p.length c21, .int .i64 ((p.length : Nat) : Int)]]) (by kernel_rfl)
        replace hH := (hH.sublist (.cons_cons _ (.cons_cons _ (.cons_cons _ (List.nil_sublist _)))))
        replace hH : Hp w w26 _ _ [.blk xb 87 [rv2, .bool D2.off, .int .i64 (actsI D2.ar), .int .i64 part], lstO rv2 (setL L (⟨nm, p, p.length⟩, Value.slice A20 p.length c21)), filRs (setL L (⟨nm, p, p.length⟩, Value.slice A20 p.length c21))] := hH
        exact rfin_do (kind := 2) (th := false) (L' := setL L (⟨nm, p, p.length⟩, Value.slice A20 p.length c21)) (rv' := rv2) (p) 80 (by simp) rfl hm0 (fun h => absurd h.1 (by decide)) hcut (.inr (.inr (by rw [hpt]; omega))) (by simp) (by rw [setL_fs hF hG.srt]; unfold doF; rfl) ((hH.close (r := [])).turned)
      try simp only [decide_eq_false_iff_not, beq_eq_false_iff_ne, bne_eq_false_iff_eq, ne_eq, Decidable.not_not, Int.not_lt, Int.not_le, Bool.not_eq_false', beq_iff_eq, bne_iff_ne, decide_eq_true_eq] at hc6
      have hnrun : ¬ modI part 2 = 1 := by omega
      refine sw_skip ?_
      refine sw_next ?_
      refine sw_seq ?_
      refine sw_seq ?_
      refine sw_region ?_  -- R29 ref.go:131
      refine gl_ops 1 [(131, .bool true)] (by kernel_rfl) ?_
      refine gl_done rfl ?_
      refine sw_next ?_
      refine sw_true rfl rfl ?_
      refine sw_seq ?_
      refine sw_region ?_  -- R30 ref.go:132
      refine gl_ops 1 [(10, .int .i64 80)] (by kernel_rfl) ?_
      refine gl_done rfl ?_
      refine sw_next ?_
      refine sw_ret ?_
      refine thR ?_
      refine ret1 rfl rfl  ?_
      replace hH : Hp w w14 _ _ [.row (.slice Ar L.length cr) 89 3 L.length (rowC filC L), filRs L, .blk b3 89 [.string (bs nm), .slice Af b.length cf, .int .i64 ((sr : Nat) : Int)], .blk xb 87 [.slice Ar L.length cr, .bool D2.off, .int .i64 (actsI D2.ar), .int .i64 part]] := hH
      replace hH := hH.pick [3, 0, 1, 2] (by kernel_rfl) (os' := [.blk xb 87 [.slice Ar L.length cr, .bool D2.off, .int .i64 (actsI D2.ar), .int .i64 part], .row (.slice Ar L.length cr) 89 3 L.length (rowC filC L), filRs L, .blk b3 89 [.string (bs nm), .slice Af b.length cf, .int .i64 ((sr : Nat) : Int)]]) (by kernel_rfl)
      replace hH := (hH.sublist (.cons_cons _ (.cons_cons _ (.cons_cons _ (List.nil_sublist _)))))
      replace hH : Hp w w14 _ _ [.blk xb 87 [.slice Ar L.length cr, .bool D2.off, .int .i64 (actsI D2.ar), .int .i64 part], .row (.slice Ar L.length cr) 89 3 L.length (rowC filC L), filRs L] := hH
      exact rfin_not (kind := 2) (th := false) hF 80 (by simp) rfl hm0 (fun h => absurd h.1 (by decide)) hcut (by rw [hpt]; simp [hnrun]) ((hH.close (r := [])).turned)
    refine gl_cv 15 (.bool false) (by rw [hg4]) rfl ?_
    try simp only [decide_eq_false_iff_not, beq_eq_false_iff_ne, bne_eq_false_iff_eq, ne_eq, Decidable.not_not, Int.not_lt, Int.not_le, Bool.not_eq_false', beq_iff_eq, bne_iff_ne, decide_eq_true_eq] at hg4
    subst hg4
    refine gl_ops 3 [(0, .pointer (some ⟨xb, 0, none⟩)), (1, .int .i64 2), (2, .string (bs nm)), (3, .slice Ap p.length cp), (4, .int .i64 n), (12, .pointer (some ⟨b3, 0, none⟩)), (14, .int .i64 part), (15, .bool false), (65, .bool false)] (by kernel_rfl) ?_
    refine gl_done rfl ?_
    refine sw_next ?_
    refine sw_false rfl rfl ?_
    refine sw_skip ?_
    refine sw_next ?_
    refine sw_seq ?_
    refine sw_seq ?_
    refine sw_region ?_  -- R14 ref.go:112
    refine gl_ops 11 [(0, .pointer (some ⟨xb, 0, none⟩)), (1, .int .i64 2), (2, .string (bs nm)), (3, .slice Ap p.length cp), (4, .int .i64 n), (12, .pointer (some ⟨b3, 0, none⟩)), (15, .bool false), (83, .bool true)] (by kernel_rfl) ?_
    refine gl_done rfl ?_
    refine sw_next ?_
    refine sw_true rfl rfl ?_
    refine sw_seq ?_
    refine sw_seq ?_
    refine sw_region ?_  -- R15 ref.go:113
    refine gl_ops 1 [(0, .pointer (some ⟨xb, 0, none⟩)), (1, .int .i64 2), (2, .string (bs nm)), (3, .slice Ap p.length cp), (4, .int .i64 n), (12, .pointer (some ⟨b3, 0, none⟩)), (15, .bool false), (84, .int .i64 2)] (by kernel_rfl) ?_
    refine gl_done rfl ?_
    refine sw_next ?_
    refine sw_block ?_
    refine sw_seq ?_
    refine sw_region ?_  -- R16 ref.go:114
    refine gl_ops 2 [(0, .pointer (some ⟨xb, 0, none⟩)), (1, .int .i64 2), (2, .string (bs nm)), (3, .slice Ap p.length cp), (4, .int .i64 n), (12, .pointer (some ⟨b3, 0, none⟩)), (15, .bool false), (84, .int .i64 2), (85, .bool false)] (by kernel_rfl) ?_
    refine gl_done rfl ?_
    refine sw_next ?_
    refine sw_false rfl rfl ?_
    refine sw_seq ?_
    refine sw_region ?_  -- R18 ref.go:116
    refine gl_ops 2 [(0, .pointer (some ⟨xb, 0, none⟩)), (1, .int .i64 2), (2, .string (bs nm)), (3, .slice Ap p.length cp), (4, .int .i64 n), (12, .pointer (some ⟨b3, 0, none⟩)), (15, .bool false), (84, .int .i64 2), (94, .bool false)] (by kernel_rfl) ?_
    refine gl_done rfl ?_
    refine sw_next ?_
    refine sw_false rfl rfl ?_
    refine sw_seq ?_
    refine sw_region ?_  -- R20 ref.go:118
    refine gl_ops 2 [(0, .pointer (some ⟨xb, 0, none⟩)), (1, .int .i64 2), (2, .string (bs nm)), (3, .slice Ap p.length cp), (4, .int .i64 n), (12, .pointer (some ⟨b3, 0, none⟩)), (15, .bool false), (84, .int .i64 2), (100, .bool true)] (by kernel_rfl) ?_
    refine gl_done rfl ?_
    refine sw_next ?_
    refine sw_true rfl rfl ?_
    refine sw_seq ?_
    refine sw_region ?_  -- R21 ref.go:119
    refine gl_st (st_buildS0 (e := 5) (m := 1) rfl rfl rfl (by kernel_rfl) (by kernel_rfl) hH ?_)
    clear hH; intro b28 w29 hH
    refine gl_ops 1 [(0, .pointer (some ⟨xb, 0, none⟩)), (1, .int .i64 2), (2, .string (bs nm)), (3, .slice Ap p.length cp), (12, .pointer (some ⟨b3, 0, none⟩)), (15, .bool false), (102, .slice (some ⟨b28, 0, none⟩) 0 0), (103, .slice Ap p.length cp)] (by kernel_rfl) ?_
    refine gl_st (st_appH (e := 5) (zv := .int .u8 0) (m := 1) (bytes := 1) 4 rfl rfl rfl (by kernel_rfl) (by kernel_rfl) rfl (by decide) hH rfl rfl rfl (hp.row.mono hH.zin) (bv_one _) (by unfold maxLen; omega) (by omega) ?_)
    clear hH; intro v30 w31 hH
    replace hH := hH.row_eq 4 (l' := p.length) (xs' := bv p) rfl (Nat.zero_add _) (List.nil_append _)
    obtain ⟨A32, c33, rfl, hl34, hm35⟩ := hH.row_form 4 rfl
    refine gl_ops 1 [(0, .pointer (some ⟨xb, 0, none⟩)), (1, .int .i64 2), (2, .string (bs nm)), (3, .slice Ap p.length cp), (12, .pointer (some ⟨b3, 0, none⟩)), (15, .bool false), (104, .slice A32 p.length c33), (105, .pointer (some ⟨b3, 1, none⟩))] (by kernel_rfl) ?_
    refine gl_st (st_storeK (v := .slice A32 p.length c33) 2 rfl rfl rfl hH rfl rfl rfl (by kernel_rfl) rfl (by simp) ?_)
    clear hH; intro w36 hH
    refine gl_done rfl ?_
    refine sw_next ?_
    refine sw_region ?_  -- R22 ref.go:120
    refine gl_ops 1 [(0, .pointer (some ⟨xb, 0, none⟩)), (1, .int .i64 2), (2, .string (bs nm)), (12, .pointer (some ⟨b3, 0, none⟩)), (15, .bool false), (106, .slice Ap p.length cp)] (by kernel_rfl) ?_
    refine gl_q rfl rfl rfl (rd_len (e := 5) (by kernel_rfl) rfl) ?_
    refine gl_ops 1 [(0, .pointer (some ⟨xb, 0, none⟩)), (1, .int .i64 2), (2, .string (bs nm)), (12, .pointer (some ⟨b3, 0, none⟩)), (15, .bool false), (107, .int .i64 ((p.length : Nat) : Int)), (108, .pointer (some ⟨b3, 2, none⟩))] (by kernel_rfl) ?_
    refine gl_st (st_storeK (v := .int .i64 ((p.length : Nat) : Int)) 2 rfl rfl rfl hH rfl rfl rfl (by kernel_rfl) rfl (by simp) ?_)
    clear hH; intro w37 hH
    refine gl_done rfl ?_
    refine bkN ?_
    refine sw_next ?_
    refine sw_seq ?_
    refine sw_region ?_  -- R26 ref.go:125
    refine gl_ops 2 [(0, .pointer (some ⟨xb, 0, none⟩)), (2, .string (bs nm)), (12, .pointer (some ⟨b3, 0, none⟩)), (15, .bool false), (124, .bool false)] (by kernel_rfl) ?_
    refine gl_done rfl ?_
    refine sw_next ?_
    refine sw_false rfl rfl ?_
    refine sw_region ?_  -- R28 ref.go:128
    refine gl_ops 1 [(12, .pointer (some ⟨b3, 0, none⟩)), (15, .bool false), (128, .pointer (some ⟨xb, 0, none⟩))] (by kernel_rfl) ?_
    refine gl_q rfl rfl rfl (rd_loadKA (m := 3) 2 (by kernel_rfl) hH rfl rfl (by kernel_rfl) [.string (bs nm), .slice A32 p.length c33, .int .i64 ((p.length : Nat) : Int)] rfl rfl) ?_
    replace hH : Hp w w37 _ _ [.row (.slice Ar L.length cr) 89 3 L.length (rowC filC L), filRs L, .blk b3 89 [.string (bs nm), .slice A32 p.length c33, .int .i64 ((p.length : Nat) : Int)], .blk xb 87 [.slice Ar L.length cr, .bool D2.off, .int .i64 (actsI D2.ar), .int .i64 part], .row (.slice A32 p.length c33) 5 1 p.length (bv p)] := hH
    replace hH := hH.pick [3, 0, 1, 2, 4] (by kernel_rfl) (os' := [.blk xb 87 [.slice Ar L.length cr, .bool D2.off, .int .i64 (actsI D2.ar), .int .i64 part], .row (.slice Ar L.length cr) 89 3 L.length (rowC filC L), filRs L, .blk b3 89 [.string (bs nm), .slice A32 p.length c33, .int .i64 ((p.length : Nat) : Int)], .row (.slice A32 p.length c33) 5 1 p.length (bv p)]) (by kernel_rfl)
    replace hH : Hp w w37 _ _ ([.blk xb 87 [.slice Ar L.length cr, .bool D2.off, .int .i64 (actsI D2.ar), .int .i64 part], .row (.slice Ar L.length cr) 89 3 L.length (rowC filC L)] ++ [filRs L, .blk b3 89 [.string (bs nm), .slice A32 p.length c33, .int .i64 ((p.length : Nat) : Int)], .row (.slice A32 p.length c33) 5 1 p.length (bv p)]) := hH
    refine gl_st (st_call rfl rfl rfl (by kernel_rfl) rfl (RSet_ct xb _ L (⟨nm, p, p.length⟩, Value.slice A32 p.length c33) _ _ _ _ hH.mine ⟨_, _, _, rfl⟩ hV (by omega)) ?_)
    rintro _ w38 ⟨rv2, rfl, hF39⟩
    replace hH := hH.turns hF39; clear hF39
    replace hH : Hp w w38 _ _ [filRs L, .blk b3 89 [.string (bs nm), .slice A32 p.length c33, .int .i64 ((p.length : Nat) : Int)], .row (.slice A32 p.length c33) 5 1 p.length (bv p), .blk xb 87 [rv2, .bool D2.off, .int .i64 (actsI D2.ar), .int .i64 part], lstO rv2 (setL L (⟨nm, p, p.length⟩, Value.slice A32 p.length c33))] := hH
    refine gl_done rfl ?_
    refine sw_next ?_
    refine sw_seq ?_
    refine sw_seq ?_
    refine sw_region ?_  -- R29 ref.go:131
    refine gl_ops 1 [(131, .bool false)] (by kernel_rfl) ?_
    refine gl_done rfl ?_
    refine sw_next ?_
    refine sw_false rfl rfl ?_
    refine sw_skip ?_
    refine sw_next ?_
    refine sw_seq ?_
    refine sw_region ?_  -- R31 ref.go:134
    refine gl_ops 1 [(10, .int .i64 0)] (by kernel_rfl) ?_
    refine gl_done rfl ?_
    refine sw_next ?_
    refine sw_ret ?_
    refine ret1 rfl rfl  ?_
    replace hH : Hp w w38 _ _ [filRs L, .blk b3 89 [.string (bs nm), .slice A32 p.length c33, .int .i64 ((p.length : Nat) : Int)], .row (.slice A32 p.length c33) 5 1 p.length (bv p), .blk xb 87 [rv2, .bool D2.off, .int .i64 (actsI D2.ar), .int .i64 part], lstO rv2 (setL L (⟨nm, p, p.length⟩, Value.slice A32 p.length c33))] := hH
    replace hH := hH.pick [2, 0, 1, 3, 4] (by kernel_rfl) (os' := [.row (.slice A32 p.length c33) 5 1 p.length (bv p), filRs L, .blk b3 89 [.string (bs nm), .slice A32 p.length c33, .int .i64 ((p.length : Nat) : Int)], .blk xb 87 [rv2, .bool D2.off, .int .i64 (actsI D2.ar), .int .i64 part], lstO rv2 (setL L (⟨nm, p, p.length⟩, Value.slice A32 p.length c33))]) (by kernel_rfl)
    replace hH : Hp w w38 _ _ (filR (⟨nm, p, p.length⟩, Value.slice A32 p.length c33) :: filRs L :: [.blk b3 89 [.string (bs nm), .slice A32 p.length c33, .int .i64 ((p.length : Nat) : Int)], .blk xb 87 [rv2, .bool D2.off, .int .i64 (actsI D2.ar), .int .i64 part], lstO rv2 (setL L (⟨nm, p, p.length⟩, Value.slice A32 p.length c33))]) := hH
    replace hH := rs_setL hH
    replace hH : Hp w w38 _ _ [filRs (setL L (⟨nm, p, p.length⟩, Value.slice A32 p.length c33)), .blk b3 89 [.string (bs nm), .slice A32 p.length c33, .int .i64 ((p.length : Nat) : Int)], .blk xb 87 [rv2, .bool D2.off, .int .i64 (actsI D2.ar), .int .i64 part], lstO rv2 (setL L (⟨nm, p, p.length⟩, Value.slice A32 p.length c33))] := hH
    replace hH := hH.pick [2, 3, 0, 1] (by kernel_rfl) (os' := [.blk xb 87 [rv2, .bool D2.off, .int .i64 (actsI D2.ar), .int .i64 part], lstO rv2 (setL L (⟨nm, p, p.length⟩, Value.slice A32 p.length c33)), filRs (setL L (⟨nm, p, p.length⟩, Value.slice A32 p.length c33)), .blk b3 89 [.string (bs nm), .slice A32 p.length c33, .int .i64 ((p.length : Nat) : Int)]]) (by kernel_rfl)
    replace hH := (hH.sublist (.cons_cons _ (.cons_cons _ (.cons_cons _ (List.nil_sublist _)))))
    replace hH : Hp w w38 _ _ [.blk xb 87 [rv2, .bool D2.off, .int .i64 (actsI D2.ar), .int .i64 part], lstO rv2 (setL L (⟨nm, p, p.length⟩, Value.slice A32 p.length c33)), filRs (setL L (⟨nm, p, p.length⟩, Value.slice A32 p.length c33))] := hH
    exact rfin_do (kind := 2) (th := false) (L' := setL L (⟨nm, p, p.length⟩, Value.slice A32 p.length c33)) (rv' := rv2) (p) 0 (by simp) rfl hm0 (fun h => absurd h.1 (by decide)) hcut (.inl rfl) (by simp) (by rw [setL_fs hF hG.srt]; unfold doF; rfl) ((hH.close (r := [])).turned)
  try simp only [decide_eq_false_iff_not, beq_eq_false_iff_ne, bne_eq_false_iff_eq, ne_eq, Decidable.not_not, Int.not_lt, Int.not_le, Bool.not_eq_false', beq_iff_eq, bne_iff_ne, decide_eq_true_eq] at hc2
  have hlt : ¬ fndI L nm < L.length := by intro h9; unfold fndZ at hc2; rw [if_pos h9] at hc2; omega
  have hold := rdk_no hF hlt
  refine sw_skip ?_
  refine sw_next ?_
  refine sw_seq ?_
  refine sw_seq ?_
  refine sw_region ?_  -- R8 ref.go:104
  refine gl_ops 13 [(0, .pointer (some ⟨xb, 0, none⟩)), (1, .int .i64 2), (2, .string (bs nm)), (3, .slice Ap p.length cp), (4, .int .i64 n), (12, .pointer (some ⟨b3, 0, none⟩)), (54, .bool false)] (by kernel_rfl) ?_
  refine gl_done rfl ?_
  refine sw_next ?_
  refine sw_false rfl rfl ?_
  refine sw_skip ?_
  refine sw_next ?_
  refine sw_seq ?_
  refine sw_region ?_  -- R10 ref.go:107
  refine gl_ops 3 [(0, .pointer (some ⟨xb, 0, none⟩)), (1, .int .i64 2), (2, .string (bs nm)), (3, .slice Ap p.length cp), (4, .int .i64 n), (12, .pointer (some ⟨b3, 0, none⟩)), (57, .pointer (some ⟨xb, 3, none⟩))] (by kernel_rfl) ?_
  refine gl_q rfl rfl rfl (rd_loadK 0 (by kernel_rfl) hH rfl rfl rfl) ?_
  refine gl_ops 1 [(0, .pointer (some ⟨xb, 0, none⟩)), (1, .int .i64 2), (2, .string (bs nm)), (3, .slice Ap p.length cp), (4, .int .i64 n), (12, .pointer (some ⟨b3, 0, none⟩)), (14, .int .i64 part)] (by kernel_rfl) ?_
  refine gl_done rfl ?_
  refine sw_next ?_
  refine sw_seq ?_
  refine sw_region ?_  -- R11 ref.go:108
  obtain ⟨D2, cu, pt, hcut⟩ : ∃ D2 cu pt, cutD D = (D2, cu, pt) := ⟨_, _, _, rfl⟩
  refine gl_ops 1 [(0, .pointer (some ⟨xb, 0, none⟩)), (1, .int .i64 2), (2, .string (bs nm)), (3, .slice Ap p.length cp), (4, .int .i64 n), (12, .pointer (some ⟨b3, 0, none⟩)), (14, .int .i64 part), (59, .pointer (some ⟨xb, 0, none⟩))] (by kernel_rfl) ?_
  replace hH : Hp w w6 _ _ ([.blk xb 87 [.slice Ar L.length cr, .bool D.off, .int .i64 (actsI D.ar), .int .i64 part]] ++ [.row (.slice Ar L.length cr) 89 3 L.length (rowC filC L), filRs L, .blk b3 89 [.string (bs nm), .slice none 0 0, .int .i64 0]]) := hH
  refine gl_st (st_call rfl rfl rfl (by kernel_rfl) rfl (RAct_ct xb _ D D2 cu pt part _ hcut hA hH.mine) ?_)
  rintro _ w40 ⟨rfl, hF41⟩
  replace hH := hH.turns hF41; clear hF41
  replace hH : Hp w w40 _ _ [.row (.slice Ar L.length cr) 89 3 L.length (rowC filC L), filRs L, .blk b3 89 [.string (bs nm), .slice none 0 0, .int .i64 0], .blk xb 87 [.slice Ar L.length cr, .bool D2.off, .int .i64 (actsI D2.ar), .int .i64 part]] := hH
  refine gl_ops 1 [(0, .pointer (some ⟨xb, 0, none⟩)), (1, .int .i64 2), (2, .string (bs nm)), (3, .slice Ap p.length cp), (4, .int .i64 n), (12, .pointer (some ⟨b3, 0, none⟩)), (14, .int .i64 part), (15, .bool cu)] (by kernel_rfl) ?_
  refine gl_done rfl ?_
  refine sw_next ?_
  refine sw_seq ?_
  refine sw_seq ?_
  refine sw_region ?_  -- R12 ref.go:109
  refine gl_ops 2 [(0, .pointer (some ⟨xb, 0, none⟩)), (1, .int .i64 2), (2, .string (bs nm)), (3, .slice Ap p.length cp), (4, .int .i64 n), (12, .pointer (some ⟨b3, 0, none⟩)), (14, .int .i64 part), (15, .bool cu), (62, .bool cu)] (by kernel_rfl) ?_
  refine gl_split 62 (b := cu) rfl (fun hg21 => ?_) (fun hg21 => ?_)
  ·
    refine gl_cv 15 (.bool true) (by rw [hg21]) rfl ?_
    try simp only [decide_eq_true_eq, beq_iff_eq, bne_iff_ne, ne_eq, Bool.not_eq_true', beq_eq_false_iff_ne, bne_eq_false_iff_eq, decide_eq_false_iff_not, Int.not_lt, Int.not_le] at hg21
    subst hg21
    have hpt := cut_part hcut hP rfl
    refine gl_ops 3 [(0, .pointer (some ⟨xb, 0, none⟩)), (1, .int .i64 2), (2, .string (bs nm)), (3, .slice Ap p.length cp), (4, .int .i64 n), (12, .pointer (some ⟨b3, 0, none⟩)), (14, .int .i64 part), (15, .bool true), (65, .bool false)] (by kernel_rfl) ?_
    refine gl_done rfl ?_
    refine sw_next ?_
    refine sw_false rfl rfl ?_
    refine sw_skip ?_
    refine sw_next ?_
    refine sw_seq ?_
    refine sw_seq ?_
    refine sw_region ?_  -- R14 ref.go:112
    refine gl_ops 8 [(0, .pointer (some ⟨xb, 0, none⟩)), (1, .int .i64 2), (2, .string (bs nm)), (3, .slice Ap p.length cp), (4, .int .i64 n), (12, .pointer (some ⟨b3, 0, none⟩)), (15, .bool true), (79, .bool false), (80, .int .i64 part)] (by kernel_rfl) ?_
    refine gl_st (st_call rfl rfl rfl (by kernel_rfl) rfl (RMod_ct part 2 _ (by omega) (by omega)) ?_)
    rintro _ w42 ⟨rfl, hF43⟩
    replace hH := hH.call hF43; clear hF43
    refine gl_ops 2 [(0, .pointer (some ⟨xb, 0, none⟩)), (1, .int .i64 2), (2, .string (bs nm)), (3, .slice Ap p.length cp), (4, .int .i64 n), (12, .pointer (some ⟨b3, 0, none⟩)), (15, .bool true), (83, .bool (((modI part 2 : Nat) : Int) == (1 : Int)))] (by kernel_rfl) ?_
    refine gl_done rfl ?_
    refine sw_next ?_
    refine sw_cond rfl rfl (fun hc23 => ?_) (fun hc23 => ?_)
    ·
      try simp only [decide_eq_true_eq, beq_iff_eq, bne_iff_ne, ne_eq, Bool.not_eq_true', beq_eq_false_iff_ne, bne_eq_false_iff_eq, decide_eq_false_iff_not, Int.not_lt, Int.not_le] at hc23
      refine sw_seq ?_
      refine sw_seq ?_
      refine sw_region ?_  -- R15 ref.go:113
      refine gl_ops 1 [(0, .pointer (some ⟨xb, 0, none⟩)), (1, .int .i64 2), (2, .string (bs nm)), (3, .slice Ap p.length cp), (4, .int .i64 n), (12, .pointer (some ⟨b3, 0, none⟩)), (15, .bool true), (84, .int .i64 2)] (by kernel_rfl) ?_
      refine gl_done rfl ?_
      refine sw_next ?_
      refine sw_block ?_
      refine sw_seq ?_
      refine sw_region ?_  -- R16 ref.go:114
      refine gl_ops 2 [(0, .pointer (some ⟨xb, 0, none⟩)), (1, .int .i64 2), (2, .string (bs nm)), (3, .slice Ap p.length cp), (4, .int .i64 n), (12, .pointer (some ⟨b3, 0, none⟩)), (15, .bool true), (84, .int .i64 2), (85, .bool false)] (by kernel_rfl) ?_
      refine gl_done rfl ?_
      refine sw_next ?_
      refine sw_false rfl rfl ?_
      refine sw_seq ?_
      refine sw_region ?_  -- R18 ref.go:116
      refine gl_ops 2 [(0, .pointer (some ⟨xb, 0, none⟩)), (1, .int .i64 2), (2, .string (bs nm)), (3, .slice Ap p.length cp), (4, .int .i64 n), (12, .pointer (some ⟨b3, 0, none⟩)), (15, .bool true), (84, .int .i64 2), (94, .bool false)] (by kernel_rfl) ?_
      refine gl_done rfl ?_
      refine sw_next ?_
      refine sw_false rfl rfl ?_
      refine sw_seq ?_
      refine sw_region ?_  -- R20 ref.go:118
      refine gl_ops 2 [(0, .pointer (some ⟨xb, 0, none⟩)), (1, .int .i64 2), (2, .string (bs nm)), (3, .slice Ap p.length cp), (4, .int .i64 n), (12, .pointer (some ⟨b3, 0, none⟩)), (15, .bool true), (84, .int .i64 2), (100, .bool true)] (by kernel_rfl) ?_
      refine gl_done rfl ?_
      refine sw_next ?_
      refine sw_true rfl rfl ?_
      refine sw_seq ?_
      refine sw_region ?_  -- R21 ref.go:119
      refine gl_st (st_buildS0 (e := 5) (m := 1) rfl rfl rfl (by kernel_rfl) (by kernel_rfl) hH ?_)
      clear hH; intro b44 w45 hH
      refine gl_ops 1 [(0, .pointer (some ⟨xb, 0, none⟩)), (1, .int .i64 2), (2, .string (bs nm)), (3, .slice Ap p.length cp), (12, .pointer (some ⟨b3, 0, none⟩)), (15, .bool true), (102, .slice (some ⟨b44, 0, none⟩) 0 0), (103, .slice Ap p.length cp)] (by kernel_rfl) ?_
      refine gl_st (st_appH (e := 5) (zv := .int .u8 0) (m := 1) (bytes := 1) 4 rfl rfl rfl (by kernel_rfl) (by kernel_rfl) rfl (by decide) hH rfl rfl rfl (hp.row.mono hH.zin) (bv_one _) (by unfold maxLen; omega) (by omega) ?_)
      clear hH; intro v46 w47 hH
      replace hH := hH.row_eq 4 (l' := p.length) (xs' := bv p) rfl (Nat.zero_add _) (List.nil_append _)
      obtain ⟨A48, c49, rfl, hl50, hm51⟩ := hH.row_form 4 rfl
      refine gl_ops 1 [(0, .pointer (some ⟨xb, 0, none⟩)), (1, .int .i64 2), (2, .string (bs nm)), (3, .slice Ap p.length cp), (12, .pointer (some ⟨b3, 0, none⟩)), (15, .bool true), (104, .slice A48 p.length c49), (105, .pointer (some ⟨b3, 1, none⟩))] (by kernel_rfl) ?_
      refine gl_st (st_storeK (v := .slice A48 p.length c49) 2 rfl rfl rfl hH rfl rfl rfl (by kernel_rfl) rfl (by simp) ?_)
      clear hH; intro w52 hH
      refine gl_done rfl ?_
      refine sw_next ?_
      refine sw_region ?_  -- R22 ref.go:120
      refine gl_ops 1 [(0, .pointer (some ⟨xb, 0, none⟩)), (1, .int .i64 2), (2, .string (bs nm)), (12, .pointer (some ⟨b3, 0, none⟩)), (15, .bool true), (106, .slice Ap p.length cp)] (by kernel_rfl) ?_
      refine gl_q rfl rfl rfl (rd_len (e := 5) (by kernel_rfl) rfl) ?_
      refine gl_ops 1 [(0, .pointer (some ⟨xb, 0, none⟩)), (1, .int .i64 2), (2, .string (bs nm)), (12, .pointer (some ⟨b3, 0, none⟩)), (15, .bool true), (107, .int .i64 ((p.length : Nat) : Int)), (108, .pointer (some ⟨b3, 2, none⟩))] (by kernel_rfl) ?_
      refine gl_st (st_storeK (v := .int .i64 ((p.length : Nat) : Int)) 2 rfl rfl rfl hH rfl rfl rfl (by kernel_rfl) rfl (by simp) ?_)
      clear hH; intro w53 hH
      refine gl_done rfl ?_
      refine bkN ?_
      refine sw_next ?_
      refine sw_seq ?_
      refine sw_region ?_  -- R26 ref.go:125
      refine gl_ops 2 [(0, .pointer (some ⟨xb, 0, none⟩)), (2, .string (bs nm)), (12, .pointer (some ⟨b3, 0, none⟩)), (15, .bool true), (124, .bool false)] (by kernel_rfl) ?_
      refine gl_done rfl ?_
      refine sw_next ?_
      refine sw_false rfl rfl ?_
      refine sw_region ?_  -- R28 ref.go:128
      refine gl_ops 1 [(12, .pointer (some ⟨b3, 0, none⟩)), (15, .bool true), (128, .pointer (some ⟨xb, 0, none⟩))] (by kernel_rfl) ?_
      refine gl_q rfl rfl rfl (rd_loadKA (m := 3) 2 (by kernel_rfl) hH rfl rfl (by kernel_rfl) [.string (bs nm), .slice A48 p.length c49, .int .i64 ((p.length : Nat) : Int)] rfl rfl) ?_
      replace hH : Hp w w53 _ _ [.row (.slice Ar L.length cr) 89 3 L.length (rowC filC L), filRs L, .blk b3 89 [.string (bs nm), .slice A48 p.length c49, .int .i64 ((p.length : Nat) : Int)], .blk xb 87 [.slice Ar L.length cr, .bool D2.off, .int .i64 (actsI D2.ar), .int .i64 part], .row (.slice A48 p.length c49) 5 1 p.length (bv p)] := hH
      replace hH := hH.pick [3, 0, 1, 2, 4] (by kernel_rfl) (os' := [.blk xb 87 [.slice Ar L.length cr, .bool D2.off, .int .i64 (actsI D2.ar), .int .i64 part], .row (.slice Ar L.length cr) 89 3 L.length (rowC filC L), filRs L, .blk b3 89 [.string (bs nm), .slice A48 p.length c49, .int .i64 ((p.length : Nat) : Int)], .row (.slice A48 p.length c49) 5 1 p.length (bv p)]) (by kernel_rfl)
      replace hH : Hp w w53 _ _ ([.blk xb 87 [.slice Ar L.length cr, .bool D2.off, .int .i64 (actsI D2.ar), .int .i64 part], .row (.slice Ar L.length cr) 89 3 L.length (rowC filC L)] ++ [filRs L, .blk b3 89 [.string (bs nm), .slice A48 p.length c49, .int .i64 ((p.length : Nat) : Int)], .row (.slice A48 p.length c49) 5 1 p.length (bv p)]) := hH
      refine gl_st (st_call rfl rfl rfl (by kernel_rfl) rfl (RSet_ct xb _ L (⟨nm, p, p.length⟩, Value.slice A48 p.length c49) _ _ _ _ hH.mine ⟨_, _, _, rfl⟩ hV (by omega)) ?_)
      rintro _ w54 ⟨rv2, rfl, hF55⟩
      replace hH := hH.turns hF55; clear hF55
      replace hH : Hp w w54 _ _ [filRs L, .blk b3 89 [.string (bs nm), .slice A48 p.length c49, .int .i64 ((p.length : Nat) : Int)], .row (.slice A48 p.length c49) 5 1 p.length (bv p), .blk xb 87 [rv2, .bool D2.off, .int .i64 (actsI D2.ar), .int .i64 part], lstO rv2 (setL L (⟨nm, p, p.length⟩, Value.slice A48 p.length c49))] := hH
      refine gl_done rfl ?_
      refine sw_next ?_
      refine sw_seq ?_
      refine sw_seq ?_
      refine sw_region ?_  -- R29 ref.go:131
      refine gl_ops 1 [(131, .bool true)] (by kernel_rfl) ?_
      refine gl_done rfl ?_
      refine sw_next ?_
      refine sw_true rfl rfl ?_
      refine sw_seq ?_
      refine sw_region ?_  -- R30 ref.go:132
      refine gl_ops 1 [(10, .int .i64 80)] (by kernel_rfl) ?_
      refine gl_done rfl ?_
      refine sw_next ?_
      refine sw_ret ?_
      refine thR ?_
      refine ret1 rfl rfl  ?_
      replace hH : Hp w w54 _ _ [filRs L, .blk b3 89 [.string (bs nm), .slice A48 p.length c49, .int .i64 ((p.length : Nat) : Int)], .row (.slice A48 p.length c49) 5 1 p.length (bv p), .blk xb 87 [rv2, .bool D2.off, .int .i64 (actsI D2.ar), .int .i64 part], lstO rv2 (setL L (⟨nm, p, p.length⟩, Value.slice A48 p.length c49))] := hH
      replace hH := hH.pick [2, 0, 1, 3, 4] (by kernel_rfl) (os' := [.row (.slice A48 p.length c49) 5 1 p.length (bv p), filRs L, .blk b3 89 [.string (bs nm), .slice A48 p.length c49, .int .i64 ((p.length : Nat) : Int)], .blk xb 87 [rv2, .bool D2.off, .int .i64 (actsI D2.ar), .int .i64 part], lstO rv2 (setL L (⟨nm, p, p.length⟩, Value.slice A48 p.length c49))]) (by kernel_rfl)
      replace hH : Hp w w54 _ _ (filR (⟨nm, p, p.length⟩, Value.slice A48 p.length c49) :: filRs L :: [.blk b3 89 [.string (bs nm), .slice A48 p.length c49, .int .i64 ((p.length : Nat) : Int)], .blk xb 87 [rv2, .bool D2.off, .int .i64 (actsI D2.ar), .int .i64 part], lstO rv2 (setL L (⟨nm, p, p.length⟩, Value.slice A48 p.length c49))]) := hH
      replace hH := rs_setL hH
      replace hH : Hp w w54 _ _ [filRs (setL L (⟨nm, p, p.length⟩, Value.slice A48 p.length c49)), .blk b3 89 [.string (bs nm), .slice A48 p.length c49, .int .i64 ((p.length : Nat) : Int)], .blk xb 87 [rv2, .bool D2.off, .int .i64 (actsI D2.ar), .int .i64 part], lstO rv2 (setL L (⟨nm, p, p.length⟩, Value.slice A48 p.length c49))] := hH
      replace hH := hH.pick [2, 3, 0, 1] (by kernel_rfl) (os' := [.blk xb 87 [rv2, .bool D2.off, .int .i64 (actsI D2.ar), .int .i64 part], lstO rv2 (setL L (⟨nm, p, p.length⟩, Value.slice A48 p.length c49)), filRs (setL L (⟨nm, p, p.length⟩, Value.slice A48 p.length c49)), .blk b3 89 [.string (bs nm), .slice A48 p.length c49, .int .i64 ((p.length : Nat) : Int)]]) (by kernel_rfl)
      replace hH := (hH.sublist (.cons_cons _ (.cons_cons _ (.cons_cons _ (List.nil_sublist _)))))
      replace hH : Hp w w54 _ _ [.blk xb 87 [rv2, .bool D2.off, .int .i64 (actsI D2.ar), .int .i64 part], lstO rv2 (setL L (⟨nm, p, p.length⟩, Value.slice A48 p.length c49)), filRs (setL L (⟨nm, p, p.length⟩, Value.slice A48 p.length c49))] := hH
      exact rfin_do (kind := 2) (th := false) (L' := setL L (⟨nm, p, p.length⟩, Value.slice A48 p.length c49)) (rv' := rv2) (p) 80 (by simp) rfl hm0 (fun h => absurd h.1 (by decide)) hcut (.inr (.inr (by rw [hpt]; omega))) (by simp) (by rw [setL_fs hF hG.srt]; unfold doF; rfl) ((hH.close (r := [])).turned)
    try simp only [decide_eq_false_iff_not, beq_eq_false_iff_ne, bne_eq_false_iff_eq, ne_eq, Decidable.not_not, Int.not_lt, Int.not_le, Bool.not_eq_false', beq_iff_eq, bne_iff_ne, decide_eq_true_eq] at hc23
    have hnrun : ¬ modI part 2 = 1 := by omega
    refine sw_skip ?_
    refine sw_next ?_
    refine sw_seq ?_
    refine sw_seq ?_
    refine sw_region ?_  -- R29 ref.go:131
    refine gl_ops 1 [(131, .bool true)] (by kernel_rfl) ?_
    refine gl_done rfl ?_
    refine sw_next ?_
    refine sw_true rfl rfl ?_
    refine sw_seq ?_
    refine sw_region ?_  -- R30 ref.go:132
    refine gl_ops 1 [(10, .int .i64 80)] (by kernel_rfl) ?_
    refine gl_done rfl ?_
    refine sw_next ?_
    refine sw_ret ?_
    refine thR ?_
    refine ret1 rfl rfl  ?_
    replace hH : Hp w w42 _ _ [.row (.slice Ar L.length cr) 89 3 L.length (rowC filC L), filRs L, .blk b3 89 [.string (bs nm), .slice none 0 0, .int .i64 0], .blk xb 87 [.slice Ar L.length cr, .bool D2.off, .int .i64 (actsI D2.ar), .int .i64 part]] := hH
    replace hH := hH.pick [3, 0, 1, 2] (by kernel_rfl) (os' := [.blk xb 87 [.slice Ar L.length cr, .bool D2.off, .int .i64 (actsI D2.ar), .int .i64 part], .row (.slice Ar L.length cr) 89 3 L.length (rowC filC L), filRs L, .blk b3 89 [.string (bs nm), .slice none 0 0, .int .i64 0]]) (by kernel_rfl)
    replace hH := (hH.sublist (.cons_cons _ (.cons_cons _ (.cons_cons _ (List.nil_sublist _)))))
    replace hH : Hp w w42 _ _ [.blk xb 87 [.slice Ar L.length cr, .bool D2.off, .int .i64 (actsI D2.ar), .int .i64 part], .row (.slice Ar L.length cr) 89 3 L.length (rowC filC L), filRs L] := hH
    exact rfin_not (kind := 2) (th := false) hF 80 (by simp) rfl hm0 (fun h => absurd h.1 (by decide)) hcut (by rw [hpt]; simp [hnrun]) ((hH.close (r := [])).turned)
  refine gl_cv 15 (.bool false) (by rw [hg21]) rfl ?_
  try simp only [decide_eq_false_iff_not, beq_eq_false_iff_ne, bne_eq_false_iff_eq, ne_eq, Decidable.not_not, Int.not_lt, Int.not_le, Bool.not_eq_false', beq_iff_eq, bne_iff_ne, decide_eq_true_eq] at hg21
  subst hg21
  refine gl_ops 3 [(0, .pointer (some ⟨xb, 0, none⟩)), (1, .int .i64 2), (2, .string (bs nm)), (3, .slice Ap p.length cp), (4, .int .i64 n), (12, .pointer (some ⟨b3, 0, none⟩)), (14, .int .i64 part), (15, .bool false), (65, .bool false)] (by kernel_rfl) ?_
  refine gl_done rfl ?_
  refine sw_next ?_
  refine sw_false rfl rfl ?_
  refine sw_skip ?_
  refine sw_next ?_
  refine sw_seq ?_
  refine sw_seq ?_
  refine sw_region ?_  -- R14 ref.go:112
  refine gl_ops 11 [(0, .pointer (some ⟨xb, 0, none⟩)), (1, .int .i64 2), (2, .string (bs nm)), (3, .slice Ap p.length cp), (4, .int .i64 n), (12, .pointer (some ⟨b3, 0, none⟩)), (15, .bool false), (83, .bool true)] (by kernel_rfl) ?_
  refine gl_done rfl ?_
  refine sw_next ?_
  refine sw_true rfl rfl ?_
  refine sw_seq ?_
  refine sw_seq ?_
  refine sw_region ?_  -- R15 ref.go:113
  refine gl_ops 1 [(0, .pointer (some ⟨xb, 0, none⟩)), (1, .int .i64 2), (2, .string (bs nm)), (3, .slice Ap p.length cp), (4, .int .i64 n), (12, .pointer (some ⟨b3, 0, none⟩)), (15, .bool false), (84, .int .i64 2)] (by kernel_rfl) ?_
  refine gl_done rfl ?_
  refine sw_next ?_
  refine sw_block ?_
  refine sw_seq ?_
  refine sw_region ?_  -- R16 ref.go:114
  refine gl_ops 2 [(0, .pointer (some ⟨xb, 0, none⟩)), (1, .int .i64 2), (2, .string (bs nm)), (3, .slice Ap p.length cp), (4, .int .i64 n), (12, .pointer (some ⟨b3, 0, none⟩)), (15, .bool false), (84, .int .i64 2), (85, .bool false)] (by kernel_rfl) ?_
  refine gl_done rfl ?_
  refine sw_next ?_
  refine sw_false rfl rfl ?_
  refine sw_seq ?_
  refine sw_region ?_  -- R18 ref.go:116
  refine gl_ops 2 [(0, .pointer (some ⟨xb, 0, none⟩)), (1, .int .i64 2), (2, .string (bs nm)), (3, .slice Ap p.length cp), (4, .int .i64 n), (12, .pointer (some ⟨b3, 0, none⟩)), (15, .bool false), (84, .int .i64 2), (94, .bool false)] (by kernel_rfl) ?_
  refine gl_done rfl ?_
  refine sw_next ?_
  refine sw_false rfl rfl ?_
  refine sw_seq ?_
  refine sw_region ?_  -- R20 ref.go:118
  refine gl_ops 2 [(0, .pointer (some ⟨xb, 0, none⟩)), (1, .int .i64 2), (2, .string (bs nm)), (3, .slice Ap p.length cp), (4, .int .i64 n), (12, .pointer (some ⟨b3, 0, none⟩)), (15, .bool false), (84, .int .i64 2), (100, .bool true)] (by kernel_rfl) ?_
  refine gl_done rfl ?_
  refine sw_next ?_
  refine sw_true rfl rfl ?_
  refine sw_seq ?_
  refine sw_region ?_  -- R21 ref.go:119
  refine gl_st (st_buildS0 (e := 5) (m := 1) rfl rfl rfl (by kernel_rfl) (by kernel_rfl) hH ?_)
  clear hH; intro b56 w57 hH
  refine gl_ops 1 [(0, .pointer (some ⟨xb, 0, none⟩)), (1, .int .i64 2), (2, .string (bs nm)), (3, .slice Ap p.length cp), (12, .pointer (some ⟨b3, 0, none⟩)), (15, .bool false), (102, .slice (some ⟨b56, 0, none⟩) 0 0), (103, .slice Ap p.length cp)] (by kernel_rfl) ?_
  refine gl_st (st_appH (e := 5) (zv := .int .u8 0) (m := 1) (bytes := 1) 4 rfl rfl rfl (by kernel_rfl) (by kernel_rfl) rfl (by decide) hH rfl rfl rfl (hp.row.mono hH.zin) (bv_one _) (by unfold maxLen; omega) (by omega) ?_)
  clear hH; intro v58 w59 hH
  replace hH := hH.row_eq 4 (l' := p.length) (xs' := bv p) rfl (Nat.zero_add _) (List.nil_append _)
  obtain ⟨A60, c61, rfl, hl62, hm63⟩ := hH.row_form 4 rfl
  refine gl_ops 1 [(0, .pointer (some ⟨xb, 0, none⟩)), (1, .int .i64 2), (2, .string (bs nm)), (3, .slice Ap p.length cp), (12, .pointer (some ⟨b3, 0, none⟩)), (15, .bool false), (104, .slice A60 p.length c61), (105, .pointer (some ⟨b3, 1, none⟩))] (by kernel_rfl) ?_
  refine gl_st (st_storeK (v := .slice A60 p.length c61) 2 rfl rfl rfl hH rfl rfl rfl (by kernel_rfl) rfl (by simp) ?_)
  clear hH; intro w64 hH
  refine gl_done rfl ?_
  refine sw_next ?_
  refine sw_region ?_  -- R22 ref.go:120
  refine gl_ops 1 [(0, .pointer (some ⟨xb, 0, none⟩)), (1, .int .i64 2), (2, .string (bs nm)), (12, .pointer (some ⟨b3, 0, none⟩)), (15, .bool false), (106, .slice Ap p.length cp)] (by kernel_rfl) ?_
  refine gl_q rfl rfl rfl (rd_len (e := 5) (by kernel_rfl) rfl) ?_
  refine gl_ops 1 [(0, .pointer (some ⟨xb, 0, none⟩)), (1, .int .i64 2), (2, .string (bs nm)), (12, .pointer (some ⟨b3, 0, none⟩)), (15, .bool false), (107, .int .i64 ((p.length : Nat) : Int)), (108, .pointer (some ⟨b3, 2, none⟩))] (by kernel_rfl) ?_
  refine gl_st (st_storeK (v := .int .i64 ((p.length : Nat) : Int)) 2 rfl rfl rfl hH rfl rfl rfl (by kernel_rfl) rfl (by simp) ?_)
  clear hH; intro w65 hH
  refine gl_done rfl ?_
  refine bkN ?_
  refine sw_next ?_
  refine sw_seq ?_
  refine sw_region ?_  -- R26 ref.go:125
  refine gl_ops 2 [(0, .pointer (some ⟨xb, 0, none⟩)), (2, .string (bs nm)), (12, .pointer (some ⟨b3, 0, none⟩)), (15, .bool false), (124, .bool false)] (by kernel_rfl) ?_
  refine gl_done rfl ?_
  refine sw_next ?_
  refine sw_false rfl rfl ?_
  refine sw_region ?_  -- R28 ref.go:128
  refine gl_ops 1 [(12, .pointer (some ⟨b3, 0, none⟩)), (15, .bool false), (128, .pointer (some ⟨xb, 0, none⟩))] (by kernel_rfl) ?_
  refine gl_q rfl rfl rfl (rd_loadKA (m := 3) 2 (by kernel_rfl) hH rfl rfl (by kernel_rfl) [.string (bs nm), .slice A60 p.length c61, .int .i64 ((p.length : Nat) : Int)] rfl rfl) ?_
  replace hH : Hp w w65 _ _ [.row (.slice Ar L.length cr) 89 3 L.length (rowC filC L), filRs L, .blk b3 89 [.string (bs nm), .slice A60 p.length c61, .int .i64 ((p.length : Nat) : Int)], .blk xb 87 [.slice Ar L.length cr, .bool D2.off, .int .i64 (actsI D2.ar), .int .i64 part], .row (.slice A60 p.length c61) 5 1 p.length (bv p)] := hH
  replace hH := hH.pick [3, 0, 1, 2, 4] (by kernel_rfl) (os' := [.blk xb 87 [.slice Ar L.length cr, .bool D2.off, .int .i64 (actsI D2.ar), .int .i64 part], .row (.slice Ar L.length cr) 89 3 L.length (rowC filC L), filRs L, .blk b3 89 [.string (bs nm), .slice A60 p.length c61, .int .i64 ((p.length : Nat) : Int)], .row (.slice A60 p.length c61) 5 1 p.length (bv p)]) (by kernel_rfl)
  replace hH : Hp w w65 _ _ ([.blk xb 87 [.slice Ar L.length cr, .bool D2.off, .int .i64 (actsI D2.ar), .int .i64 part], .row (.slice Ar L.length cr) 89 3 L.length (rowC filC L)] ++ [filRs L, .blk b3 89 [.string (bs nm), .slice A60 p.length c61, .int .i64 ((p.length : Nat) : Int)], .row (.slice A60 p.length c61) 5 1 p.length (bv p)]) := hH
  refine gl_st (st_call rfl rfl rfl (by kernel_rfl) rfl (RSet_ct xb _ L (⟨nm, p, p.length⟩, Value.slice A60 p.length c61) _ _ _ _ hH.mine ⟨_, _, _, rfl⟩ hV (by omega)) ?_)
  rintro _ w66 ⟨rv2, rfl, hF67⟩
  replace hH := hH.turns hF67; clear hF67
  replace hH : Hp w w66 _ _ [filRs L, .blk b3 89 [.string (bs nm), .slice A60 p.length c61, .int .i64 ((p.length : Nat) : Int)], .row (.slice A60 p.length c61) 5 1 p.length (bv p), .blk xb 87 [rv2, .bool D2.off, .int .i64 (actsI D2.ar), .int .i64 part], lstO rv2 (setL L (⟨nm, p, p.length⟩, Value.slice A60 p.length c61))] := hH
  refine gl_done rfl ?_
  refine sw_next ?_
  refine sw_seq ?_
  refine sw_seq ?_
  refine sw_region ?_  -- R29 ref.go:131
  refine gl_ops 1 [(131, .bool false)] (by kernel_rfl) ?_
  refine gl_done rfl ?_
  refine sw_next ?_
  refine sw_false rfl rfl ?_
  refine sw_skip ?_
  refine sw_next ?_
  refine sw_seq ?_
  refine sw_region ?_  -- R31 ref.go:134
  refine gl_ops 1 [(10, .int .i64 0)] (by kernel_rfl) ?_
  refine gl_done rfl ?_
  refine sw_next ?_
  refine sw_ret ?_
  refine ret1 rfl rfl  ?_
  replace hH : Hp w w66 _ _ [filRs L, .blk b3 89 [.string (bs nm), .slice A60 p.length c61, .int .i64 ((p.length : Nat) : Int)], .row (.slice A60 p.length c61) 5 1 p.length (bv p), .blk xb 87 [rv2, .bool D2.off, .int .i64 (actsI D2.ar), .int .i64 part], lstO rv2 (setL L (⟨nm, p, p.length⟩, Value.slice A60 p.length c61))] := hH
  replace hH := hH.pick [2, 0, 1, 3, 4] (by kernel_rfl) (os' := [.row (.slice A60 p.length c61) 5 1 p.length (bv p), filRs L, .blk b3 89 [.string (bs nm), .slice A60 p.length c61, .int .i64 ((p.length : Nat) : Int)], .blk xb 87 [rv2, .bool D2.off, .int .i64 (actsI D2.ar), .int .i64 part], lstO rv2 (setL L (⟨nm, p, p.length⟩, Value.slice A60 p.length c61))]) (by kernel_rfl)
  replace hH : Hp w w66 _ _ (filR (⟨nm, p, p.length⟩, Value.slice A60 p.length c61) :: filRs L :: [.blk b3 89 [.string (bs nm), .slice A60 p.length c61, .int .i64 ((p.length : Nat) : Int)], .blk xb 87 [rv2, .bool D2.off, .int .i64 (actsI D2.ar), .int .i64 part], lstO rv2 (setL L (⟨nm, p, p.length⟩, Value.slice A60 p.length c61))]) := hH
  replace hH := rs_setL hH
  replace hH : Hp w w66 _ _ [filRs (setL L (⟨nm, p, p.length⟩, Value.slice A60 p.length c61)), .blk b3 89 [.string (bs nm), .slice A60 p.length c61, .int .i64 ((p.length : Nat) : Int)], .blk xb 87 [rv2, .bool D2.off, .int .i64 (actsI D2.ar), .int .i64 part], lstO rv2 (setL L (⟨nm, p, p.length⟩, Value.slice A60 p.length c61))] := hH
  replace hH := hH.pick [2, 3, 0, 1] (by kernel_rfl) (os' := [.blk xb 87 [rv2, .bool D2.off, .int .i64 (actsI D2.ar), .int .i64 part], lstO rv2 (setL L (⟨nm, p, p.length⟩, Value.slice A60 p.length c61)), filRs (setL L (⟨nm, p, p.length⟩, Value.slice A60 p.length c61)), .blk b3 89 [.string (bs nm), .slice A60 p.length c61, .int .i64 ((p.length : Nat) : Int)]]) (by kernel_rfl)
  replace hH := (hH.sublist (.cons_cons _ (.cons_cons _ (.cons_cons _ (List.nil_sublist _)))))
  replace hH : Hp w w66 _ _ [.blk xb 87 [rv2, .bool D2.off, .int .i64 (actsI D2.ar), .int .i64 part], lstO rv2 (setL L (⟨nm, p, p.length⟩, Value.slice A60 p.length c61)), filRs (setL L (⟨nm, p, p.length⟩, Value.slice A60 p.length c61))] := hH
  exact rfin_do (kind := 2) (th := false) (L' := setL L (⟨nm, p, p.length⟩, Value.slice A60 p.length c61)) (rv' := rv2) (p) 0 (by simp) rfl hm0 (fun h => absurd h.1 (by decide)) hcut (.inl rfl) (by simp) (by rw [setL_fs hF hG.srt]; unfold doF; rfl) ((hH.close (r := [])).turned)
theorem RDo3_ct (xb : Nat) (rv : Value) (D : Dsk) (part : Int) (L : FV) (nm : List UInt8) (vp : Value) (p : List UInt8) (n : Int) (M : Nat) (w : World) (hM : Mine w (ownR xb rv D part L)) (hF : L.map (·.1) = D.fs) (hA : ArOk D.ar) (hP : PartOk D.ar part) (hG : Good D.fs M) (hMM : M ≤ 4194304) (hN : L.length ≤ 900000) (hs : nm.length ≤ 140737488355328) (hp : RB (off w (blksOf (ownR xb rv D part L))) vp p) (hpl : p.length ≤ 1048576) :
    Fun Tryd.prog 70 [.pointer (some ⟨xb, 0, none⟩), .int .i64 3, .string (bs nm), vp, .int .i64 n] w fun v w' => RPost xb rv D part L (doD D 3 nm p n) w v w' := by
  obtain ⟨Ar, cr, rfl, hcr1, hcr2⟩ := (Row.of_own (hM.1 _ (List.mem_singleton.2 rfl) (lstO rv L) (by simp [rdkO]))).form
  have hcr3 := hcr2
  simp only [maxLen] at hcr3
  have hV : SlV L := filRs_sl (hM.1 _ (List.mem_singleton.2 rfl) (filRs L) (by simp [rdkO]))
  obtain ⟨Ap, cp, rfl, hp1, hp2⟩ := hp.row.form
  refine fun_of_sw Tryd.func70 rfl 132 rfl rfl ?_
  have hH : Hp w w (off w (blksOf (ownR xb (.slice Ar L.length cr) D part L))) (blksOf (ownR xb (.slice Ar L.length cr) D part L)) (rdkO xb (.slice Ar L.length cr) D.off (actsI D.ar) part L ++ []) := (Hp.start_mine hM).open_
  replace hH : Hp w w _ _ [.blk xb 87 [.slice Ar L.length cr, .bool D.off, .int .i64 (actsI D.ar), .int .i64 part], .row (.slice Ar L.length cr) 89 3 L.length (rowC filC L), filRs L] := hH
  refine sw_seq ?_
  refine sw_region ?_  -- R0 ref.go:94
  refine gl_ops 1 [(0, .pointer (some ⟨xb, 0, none⟩)), (1, .int .i64 3), (2, .string (bs nm)), (3, .slice Ap p.length cp), (4, .int .i64 n)] (by kernel_rfl) ?_
  refine gl_done rfl ?_
  refine sw_next ?_
  refine sw_seq ?_
  refine sw_region ?_  -- R1 ref.go:95
  refine gl_ops 8 [(0, .pointer (some ⟨xb, 0, none⟩)), (1, .int .i64 3), (2, .string (bs nm)), (3, .slice Ap p.length cp), (4, .int .i64 n), (16, .pointer (some ⟨xb, 0, none⟩)), (17, .string (bs nm)), (23, .bool true)] (by kernel_rfl) ?_
  refine gl_st (st_call rfl rfl rfl (by kernel_rfl) rfl (RMay18_ct xb _ L D nm true _ (hH.blk_cell 0 rfl rfl) (hH.blk_cell 0 rfl rfl) (hH.row_reads 1 rfl) hF hs) ?_)
  rintro _ w1 ⟨rfl, hF2⟩
  replace hH := hH.call hF2; clear hF2
  refine gl_ops 1 [(0, .pointer (some ⟨xb, 0, none⟩)), (1, .int .i64 3), (2, .string (bs nm)), (3, .slice Ap p.length cp), (4, .int .i64 n), (11, .int .i64 ((mayE D nm true : Nat) : Int))] (by kernel_rfl) ?_
  refine gl_done rfl ?_
  refine sw_next ?_
  refine sw_seq ?_
  refine sw_seq ?_
  refine sw_region ?_  -- R2 ref.go:96
  refine gl_ops 2 [(0, .pointer (some ⟨xb, 0, none⟩)), (1, .int .i64 3), (2, .string (bs nm)), (3, .slice Ap p.length cp), (4, .int .i64 n), (11, .int .i64 ((mayE D nm true : Nat) : Int)), (26, .bool (((mayE D nm true : Nat) : Int) != (0 : Int)))] (by kernel_rfl) ?_
  refine gl_done rfl ?_
  refine sw_next ?_
  refine sw_cond rfl rfl (fun hc1 => ?_) (fun hc1 => ?_)
  ·
    try simp only [decide_eq_true_eq, beq_iff_eq, bne_iff_ne, ne_eq, Bool.not_eq_true', beq_eq_false_iff_ne, bne_eq_false_iff_eq, decide_eq_false_iff_not, Int.not_lt, Int.not_le] at hc1
    refine sw_seq ?_
    refine sw_region ?_  -- R3 ref.go:97
    refine gl_ops 2 [(10, .int .i64 ((mayE D nm true : Nat) : Int))] (by kernel_rfl) ?_
    refine gl_done rfl ?_
    refine sw_next ?_
    refine sw_ret ?_
    refine thR ?_
    refine ret1 rfl rfl  ?_
    replace hH := (hH.sublist (.cons_cons _ (.cons_cons _ (.cons_cons _ (List.nil_sublist _)))))
    replace hH : Hp w w1 _ _ [.blk xb 87 [.slice Ar L.length cr, .bool D.off, .int .i64 (actsI D.ar), .int .i64 part], .row (.slice Ar L.length cr) 89 3 L.length (rowC filC L), filRs L] := hH
    exact rfin_err (kind := 3) (th := true) hF rfl (by omega) ((hH.close (r := [])).turned)
  try simp only [decide_eq_false_iff_not, beq_eq_false_iff_ne, bne_eq_false_iff_eq, ne_eq, Decidable.not_not, Int.not_lt, Int.not_le, Bool.not_eq_false', beq_iff_eq, bne_iff_ne, decide_eq_true_eq] at hc1
  have hm0 : mayE D nm true = 0 := by omega
  have hlt := rdk_lt hF hm0
  obtain ⟨b, sr, fv, hq, hold, hmem⟩ := rdk_find hF hlt
  obtain ⟨Af, cf, rfl, hf1, hf2⟩ := (filRs_rb3 hH 2 rfl hq).row.form
  have hbM := hG.short _ hmem
  have hsr := hG.sure _ hmem
  simp only at hbM hsr
  refine sw_skip ?_
  refine sw_next ?_
  refine sw_seq ?_
  refine sw_region ?_  -- R4 ref.go:99
  refine gl_ops 2 [(0, .pointer (some ⟨xb, 0, none⟩)), (1, .int .i64 3), (2, .string (bs nm)), (3, .slice Ap p.length cp), (4, .int .i64 n), (29, .agg #[.string (bs nm), .slice none 0 0, .int .i64 0])] (by kernel_rfl) ?_
  refine gl_st (st_allocH rfl rfl rfl (cs := [.string (bs []), .slice none 0 0, .int .i64 0]) (by kernel_rfl) hH ?_)
  clear hH; intro b3 w4 hH
  refine gl_st (st_storeKA (vs := [.string (bs nm), .slice none 0 0, .int .i64 0]) 3 rfl rfl rfl hH rfl rfl (by kernel_rfl) (by kernel_rfl) rfl (by simp) [.string (bs nm), .slice none 0 0, .int .i64 0] rfl ?_)
  clear hH; intro w5 hH
  refine gl_done rfl ?_
  refine sw_next ?_
  refine sw_seq ?_
  refine sw_region ?_  -- R5 ref.go:100
  refine gl_ops 2 [(0, .pointer (some ⟨xb, 0, none⟩)), (1, .int .i64 3), (2, .string (bs nm)), (3, .slice Ap p.length cp), (4, .int .i64 n), (12, .pointer (some ⟨b3, 0, none⟩)), (30, .pointer (some ⟨xb, 0, none⟩)), (31, .string (bs nm))] (by kernel_rfl) ?_
  refine gl_st (st_call rfl rfl rfl (by kernel_rfl) rfl (RFind_ct xb _ L nm _ (hH.blk_cell 0 rfl rfl) (hH.row_reads 1 rfl)) ?_)
  rintro _ w6 ⟨rfl, hF7⟩
  replace hH := hH.call hF7; clear hF7
  refine gl_cv 32 (.int .i64 ((fndI L nm : Nat) : Int)) (by unfold fndZ; rw [if_pos hlt]) rfl ?_
  refine gl_ops 1 [(0, .pointer (some ⟨xb, 0, none⟩)), (1, .int .i64 3), (2, .string (bs nm)), (3, .slice Ap p.length cp), (4, .int .i64 n), (12, .pointer (some ⟨b3, 0, none⟩)), (13, .int .i64 ((fndI L nm : Nat) : Int))] (by kernel_rfl) ?_
  refine gl_done rfl ?_
  refine sw_next ?_
  refine sw_seq ?_
  refine sw_seq ?_
  refine sw_region ?_  -- R6 ref.go:101
  refine gl_ops 2 [(0, .pointer (some ⟨xb, 0, none⟩)), (1, .int .i64 3), (2, .string (bs nm)), (3, .slice Ap p.length cp), (4, .int .i64 n), (12, .pointer (some ⟨b3, 0, none⟩)), (13, .int .i64 ((fndI L nm : Nat) : Int)), (34, .bool (decide (((fndI L nm : Nat) : Int) ≥ (0 : Int))))] (by kernel_rfl) ?_
  refine gl_done rfl ?_
  refine sw_next ?_
  refine sw_cond rfl rfl (fun hc2 => ?_) (fun hc2 => ?_)
  rotate_left
  · exact absurd hc2 (by simp only [decide_eq_false_iff_not, beq_eq_false_iff_ne, bne_eq_false_iff_eq, ne_eq, Decidable.not_not, Int.not_lt, Int.not_le]; omega)
  clear hc2
  refine sw_region ?_  -- R7 ref.go:102
  refine gl_ops 3 [(0, .pointer (some ⟨xb, 0, none⟩)), (1, .int .i64 3), (2, .string (bs nm)), (3, .slice Ap p.length cp), (4, .int .i64 n), (12, .pointer (some ⟨b3, 0, none⟩)), (13, .int .i64 ((fndI L nm : Nat) : Int)), (37, .pointer (some ⟨xb, 0, none⟩))] (by kernel_rfl) ?_
  refine gl_q rfl rfl rfl (rd_loadK 0 (by kernel_rfl) hH rfl rfl rfl) ?_
  obtain ⟨b9, hb8, hi10⟩ := hH.row_idx 1 rfl (fndI L nm) (by omega)
  refine gl_ops 1 [(0, .pointer (some ⟨xb, 0, none⟩)), (1, .int .i64 3), (2, .string (bs nm)), (3, .slice Ap p.length cp), (4, .int .i64 n), (12, .pointer (some ⟨b3, 0, none⟩)), (38, .slice Ar L.length cr), (39, .int .i64 ((fndI L nm : Nat) : Int))] (by kernel_rfl) ?_
  refine gl_q rfl rfl rfl (rd_idx (e := 89) (m := 3) (by kernel_rfl) (by kernel_rfl) rfl rfl hi10) ?_
  refine gl_q rfl rfl rfl (rd_loadOA (q := 3) 1 (by kernel_rfl) hH rfl rfl hb8 (by kernel_rfl) [.string (bs nm), .slice Af b.length cf, .int .i64 ((sr : Nat) : Int)] rfl (rowC_allO filC_len hq _ rfl)) ?_
  refine gl_st (st_storeKA (vs := [.string (bs nm), .slice Af b.length cf, .int .i64 ((sr : Nat) : Int)]) 3 rfl rfl rfl hH rfl rfl (by kernel_rfl) (by kernel_rfl) rfl (by simp) [.string (bs nm), .slice Af b.length cf, .int .i64 ((sr : Nat) : Int)] rfl ?_)
  clear hH; intro w11 hH
  refine gl_done rfl ?_
  refine sw_next ?_
  refine sw_seq ?_
  refine sw_seq ?_
  refine sw_region ?_  -- R8 ref.go:104
  refine gl_ops 6 [(0, .pointer (some ⟨xb, 0, none⟩)), (1, .int .i64 3), (2, .string (bs nm)), (3, .slice Ap p.length cp), (4, .int .i64 n), (12, .pointer (some ⟨b3, 0, none⟩)), (44, .bool true), (47, .bool (decide ((n : Int) < (0 : Int))))] (by kernel_rfl) ?_
  refine gl_split 47 (b := decide ((n : Int) < (0 : Int))) rfl (fun hg3 => ?_) (fun hg3 => ?_)
  ·
    try simp only [decide_eq_true_eq, beq_iff_eq, bne_iff_ne, ne_eq, Bool.not_eq_true', beq_eq_false_iff_ne, bne_eq_false_iff_eq, decide_eq_false_iff_not, Int.not_lt, Int.not_le] at hg3
    refine gl_ops 7 [(0, .pointer (some ⟨xb, 0, none⟩)), (1, .int .i64 3), (2, .string (bs nm)), (3, .slice Ap p.length cp), (4, .int .i64 n), (12, .pointer (some ⟨b3, 0, none⟩)), (54, .bool true)] (by kernel_rfl) ?_
    refine gl_done rfl ?_
    refine sw_next ?_
    refine sw_true rfl rfl ?_
    refine sw_seq ?_
    refine sw_region ?_  -- R9 ref.go:105
    refine gl_ops 1 [(10, .int .i64 1)] (by kernel_rfl) ?_
    refine gl_done rfl ?_
    refine sw_next ?_
    refine sw_ret ?_
    refine thR ?_
    refine ret1 rfl rfl  ?_
    replace hH := (hH.sublist (.cons_cons _ (.cons_cons _ (.cons_cons _ (List.nil_sublist _)))))
    replace hH : Hp w w11 _ _ [.blk xb 87 [.slice Ar L.length cr, .bool D.off, .int .i64 (actsI D.ar), .int .i64 part], .row (.slice Ar L.length cr) 89 3 L.length (rowC filC L), filRs L] := hH
    exact rfin_arg hF hm0 (.inl (by omega)) ((hH.close (r := [])).turned)
  try simp only [decide_eq_false_iff_not, beq_eq_false_iff_ne, bne_eq_false_iff_eq, ne_eq, Decidable.not_not, Int.not_lt, Int.not_le, Bool.not_eq_false', beq_iff_eq, bne_iff_ne, decide_eq_true_eq] at hg3
  refine gl_ops 2 [(0, .pointer (some ⟨xb, 0, none⟩)), (1, .int .i64 3), (2, .string (bs nm)), (3, .slice Ap p.length cp), (4, .int .i64 n), (12, .pointer (some ⟨b3, 0, none⟩)), (44, .bool true), (47, .bool false), (48, .int .i64 n), (49, .pointer (some ⟨b3, 1, none⟩))] (by kernel_rfl) ?_
  refine gl_q rfl rfl rfl (rd_loadK 3 (by kernel_rfl) hH rfl rfl rfl) ?_
  refine gl_q rfl rfl rfl (rd_len (e := 5) (by kernel_rfl) rfl) ?_
  refine gl_ops 3 [(0, .pointer (some ⟨xb, 0, none⟩)), (1, .int .i64 3), (2, .string (bs nm)), (3, .slice Ap p.length cp), (4, .int .i64 n), (12, .pointer (some ⟨b3, 0, none⟩)), (54, .bool (decide ((n : Int) > ((b.length : Nat) : Int))))] (by kernel_rfl) ?_
  refine gl_done rfl ?_
  refine sw_next ?_
  refine sw_cond rfl rfl (fun hc5 => ?_) (fun hc5 => ?_)
  ·
    try simp only [decide_eq_true_eq, beq_iff_eq, bne_iff_ne, ne_eq, Bool.not_eq_true', beq_eq_false_iff_ne, bne_eq_false_iff_eq, decide_eq_false_iff_not, Int.not_lt, Int.not_le] at hc5
    refine sw_seq ?_
    refine sw_region ?_  -- R9 ref.go:105
    refine gl_ops 1 [(10, .int .i64 1)] (by kernel_rfl) ?_
    refine gl_done rfl ?_
    refine sw_next ?_
    refine sw_ret ?_
    refine thR ?_
    refine ret1 rfl rfl  ?_
    replace hH := (hH.sublist (.cons_cons _ (.cons_cons _ (.cons_cons _ (List.nil_sublist _)))))
    replace hH : Hp w w11 _ _ [.blk xb 87 [.slice Ar L.length cr, .bool D.off, .int .i64 (actsI D.ar), .int .i64 part], .row (.slice Ar L.length cr) 89 3 L.length (rowC filC L), filRs L] := hH
    exact rfin_arg hF hm0 (.inr (by rw [hold]; simp only; omega)) ((hH.close (r := [])).turned)
  try simp only [decide_eq_false_iff_not, beq_eq_false_iff_ne, bne_eq_false_iff_eq, ne_eq, Decidable.not_not, Int.not_lt, Int.not_le, Bool.not_eq_false', beq_iff_eq, bne_iff_ne, decide_eq_true_eq] at hc5
  obtain ⟨k, rfl⟩ : ∃ k : Nat, n = k := ⟨n.toNat, by omega⟩
  refine sw_skip ?_
  refine sw_next ?_
  refine sw_seq ?_
  refine sw_region ?_  -- R10 ref.go:107
  refine gl_ops 3 [(0, .pointer (some ⟨xb, 0, none⟩)), (1, .int .i64 3), (2, .string (bs nm)), (3, .slice Ap p.length cp), (4, .int .i64 ((k : Nat) : Int)), (12, .pointer (some ⟨b3, 0, none⟩)), (57, .pointer (some ⟨xb, 3, none⟩))] (by kernel_rfl) ?_
  refine gl_q rfl rfl rfl (rd_loadK 0 (by kernel_rfl) hH rfl rfl rfl) ?_
  refine gl_ops 1 [(0, .pointer (some ⟨xb, 0, none⟩)), (1, .int .i64 3), (2, .string (bs nm)), (3, .slice Ap p.length cp), (4, .int .i64 ((k : Nat) : Int)), (12, .pointer (some ⟨b3, 0, none⟩)), (14, .int .i64 part)] (by kernel_rfl) ?_
  refine gl_done rfl ?_
  refine sw_next ?_
  refine sw_seq ?_
  refine sw_region ?_  -- R11 ref.go:108
  obtain ⟨D2, cu, pt, hcut⟩ : ∃ D2 cu pt, cutD D = (D2, cu, pt) := ⟨_, _, _, rfl⟩
  refine gl_ops 1 [(0, .pointer (some ⟨xb, 0, none⟩)), (1, .int .i64 3), (2, .string (bs nm)), (3, .slice Ap p.length cp), (4, .int .i64 ((k : Nat) : Int)), (12, .pointer (some ⟨b3, 0, none⟩)), (14, .int .i64 part), (59, .pointer (some ⟨xb, 0, none⟩))] (by kernel_rfl) ?_
  replace hH : Hp w w11 _ _ ([.blk xb 87 [.slice Ar L.length cr, .bool D.off, .int .i64 (actsI D.ar), .int .i64 part]] ++ [.row (.slice Ar L.length cr) 89 3 L.length (rowC filC L), filRs L, .blk b3 89 [.string (bs nm), .slice Af b.length cf, .int .i64 ((sr : Nat) : Int)]]) := hH
  refine gl_st (st_call rfl rfl rfl (by kernel_rfl) rfl (RAct_ct xb _ D D2 cu pt part _ hcut hA hH.mine) ?_)
  rintro _ w12 ⟨rfl, hF13⟩
  replace hH := hH.turns hF13; clear hF13
  replace hH : Hp w w12 _ _ [.row (.slice Ar L.length cr) 89 3 L.length (rowC filC L), filRs L, .blk b3 89 [.string (bs nm), .slice Af b.length cf, .int .i64 ((sr : Nat) : Int)], .blk xb 87 [.slice Ar L.length cr, .bool D2.off, .int .i64 (actsI D2.ar), .int .i64 part]] := hH
  refine gl_ops 1 [(0, .pointer (some ⟨xb, 0, none⟩)), (1, .int .i64 3), (2, .string (bs nm)), (3, .slice Ap p.length cp), (4, .int .i64 ((k : Nat) : Int)), (12, .pointer (some ⟨b3, 0, none⟩)), (14, .int .i64 part), (15, .bool cu)] (by kernel_rfl) ?_
  refine gl_done rfl ?_
  refine sw_next ?_
  refine sw_seq ?_
  refine sw_seq ?_
  refine sw_region ?_  -- R12 ref.go:109
  refine gl_ops 2 [(0, .pointer (some ⟨xb, 0, none⟩)), (1, .int .i64 3), (2, .string (bs nm)), (3, .slice Ap p.length cp), (4, .int .i64 ((k : Nat) : Int)), (12, .pointer (some ⟨b3, 0, none⟩)), (14, .int .i64 part), (15, .bool cu), (62, .bool cu)] (by kernel_rfl) ?_
  refine gl_split 62 (b := cu) rfl (fun hg6 => ?_) (fun hg6 => ?_)
  ·
    refine gl_cv 15 (.bool true) (by rw [hg6]) rfl ?_
    try simp only [decide_eq_true_eq, beq_iff_eq, bne_iff_ne, ne_eq, Bool.not_eq_true', beq_eq_false_iff_ne, bne_eq_false_iff_eq, decide_eq_false_iff_not, Int.not_lt, Int.not_le] at hg6
    subst hg6
    have hpt := cut_part hcut hP rfl
    refine gl_ops 3 [(0, .pointer (some ⟨xb, 0, none⟩)), (1, .int .i64 3), (2, .string (bs nm)), (3, .slice Ap p.length cp), (4, .int .i64 ((k : Nat) : Int)), (12, .pointer (some ⟨b3, 0, none⟩)), (14, .int .i64 part), (15, .bool true), (65, .bool false)] (by kernel_rfl) ?_
    refine gl_done rfl ?_
    refine sw_next ?_
    refine sw_false rfl rfl ?_
    refine sw_skip ?_
    refine sw_next ?_
    refine sw_seq ?_
    refine sw_seq ?_
    refine sw_region ?_  -- R14 ref.go:112
    refine gl_ops 8 [(0, .pointer (some ⟨xb, 0, none⟩)), (1, .int .i64 3), (2, .string (bs nm)), (3, .slice Ap p.length cp), (4, .int .i64 ((k : Nat) : Int)), (12, .pointer (some ⟨b3, 0, none⟩)), (15, .bool true), (79, .bool false), (80, .int .i64 part)] (by kernel_rfl) ?_
    refine gl_st (st_call rfl rfl rfl (by kernel_rfl) rfl (RMod_ct part 2 _ (by omega) (by omega)) ?_)
    rintro _ w14 ⟨rfl, hF15⟩
    replace hH := hH.call hF15; clear hF15
    refine gl_ops 2 [(0, .pointer (some ⟨xb, 0, none⟩)), (1, .int .i64 3), (2, .string (bs nm)), (3, .slice Ap p.length cp), (4, .int .i64 ((k : Nat) : Int)), (12, .pointer (some ⟨b3, 0, none⟩)), (15, .bool true), (83, .bool (((modI part 2 : Nat) : Int) == (1 : Int)))] (by kernel_rfl) ?_
    refine gl_done rfl ?_
    refine sw_next ?_
    refine sw_cond rfl rfl (fun hc8 => ?_) (fun hc8 => ?_)
    ·
      try simp only [decide_eq_true_eq, beq_iff_eq, bne_iff_ne, ne_eq, Bool.not_eq_true', beq_eq_false_iff_ne, bne_eq_false_iff_eq, decide_eq_false_iff_not, Int.not_lt, Int.not_le] at hc8
      refine sw_seq ?_
      refine sw_seq ?_
      refine sw_region ?_  -- R15 ref.go:113
      refine gl_ops 1 [(0, .pointer (some ⟨xb, 0, none⟩)), (1, .int .i64 3), (2, .string (bs nm)), (3, .slice Ap p.length cp), (4, .int .i64 ((k : Nat) : Int)), (12, .pointer (some ⟨b3, 0, none⟩)), (15, .bool true), (84, .int .i64 3)] (by kernel_rfl) ?_
      refine gl_done rfl ?_
      refine sw_next ?_
      refine sw_block ?_
      refine sw_seq ?_
      refine sw_region ?_  -- R16 ref.go:114
      refine gl_ops 2 [(0, .pointer (some ⟨xb, 0, none⟩)), (1, .int .i64 3), (2, .string (bs nm)), (3, .slice Ap p.length cp), (4, .int .i64 ((k : Nat) : Int)), (12, .pointer (some ⟨b3, 0, none⟩)), (15, .bool true), (84, .int .i64 3), (85, .bool false)] (by kernel_rfl) ?_
      refine gl_done rfl ?_
      refine sw_next ?_
      refine sw_false rfl rfl ?_
      refine sw_seq ?_
      refine sw_region ?_  -- R18 ref.go:116
      refine gl_ops 2 [(0, .pointer (some ⟨xb, 0, none⟩)), (1, .int .i64 3), (2, .string (bs nm)), (3, .slice Ap p.length cp), (4, .int .i64 ((k : Nat) : Int)), (12, .pointer (some ⟨b3, 0, none⟩)), (15, .bool true), (84, .int .i64 3), (94, .bool false)] (by kernel_rfl) ?_
      refine gl_done rfl ?_
      refine sw_next ?_
      refine sw_false rfl rfl ?_
      refine sw_seq ?_
      refine sw_region ?_  -- R20 ref.go:118
      refine gl_ops 2 [(0, .pointer (some ⟨xb, 0, none⟩)), (1, .int .i64 3), (2, .string (bs nm)), (3, .slice Ap p.length cp), (4, .int .i64 ((k : Nat) : Int)), (12, .pointer (some ⟨b3, 0, none⟩)), (15, .bool true), (84, .int .i64 3), (100, .bool false)] (by kernel_rfl) ?_
      refine gl_done rfl ?_
      refine sw_next ?_
      refine sw_false rfl rfl ?_
      refine sw_seq ?_
      refine sw_region ?_  -- R23 ref.go:121
      refine gl_ops 2 [(0, .pointer (some ⟨xb, 0, none⟩)), (1, .int .i64 3), (2, .string (bs nm)), (4, .int .i64 ((k : Nat) : Int)), (12, .pointer (some ⟨b3, 0, none⟩)), (15, .bool true), (109, .bool true)] (by kernel_rfl) ?_
      refine gl_done rfl ?_
      refine sw_next ?_
      refine sw_true rfl rfl ?_
      refine sw_seq ?_
      refine sw_region ?_  -- R24 ref.go:122
      refine gl_st (st_buildS0 (e := 5) (m := 1) rfl rfl rfl (by kernel_rfl) (by kernel_rfl) hH ?_)
      clear hH; intro b16 w17 hH
      refine gl_ops 1 [(0, .pointer (some ⟨xb, 0, none⟩)), (1, .int .i64 3), (2, .string (bs nm)), (4, .int .i64 ((k : Nat) : Int)), (12, .pointer (some ⟨b3, 0, none⟩)), (15, .bool true), (111, .slice (some ⟨b16, 0, none⟩) 0 0), (112, .pointer (some ⟨b3, 1, none⟩))] (by kernel_rfl) ?_
      refine gl_q rfl rfl rfl (rd_loadK 2 (by kernel_rfl) hH rfl rfl rfl) ?_
      refine gl_ops 1 [(0, .pointer (some ⟨xb, 0, none⟩)), (1, .int .i64 3), (2, .string (bs nm)), (4, .int .i64 ((k : Nat) : Int)), (12, .pointer (some ⟨b3, 0, none⟩)), (15, .bool true), (111, .slice (some ⟨b16, 0, none⟩) 0 0), (113, .slice Af b.length cf), (114, .int .i64 ((k : Nat) : Int))] (by kernel_rfl) ?_
      refine gl_q rfl rfl rfl (rd_cut (e := 5) (m := 1) (by kernel_rfl) (by kernel_rfl) rfl (.inl ⟨rfl, rfl⟩) (.inr ⟨_, _, rfl, rfl⟩) (cut_f (show k ≤ b.length by omega) (by omega))) ?_
      refine gl_st (st_appH (e := 5) (zv := .int .u8 0) (m := 1) (bytes := 1) 4 rfl rfl rfl (by kernel_rfl) (by kernel_rfl) rfl (by decide) hH rfl rfl rfl (rb_front (filRs_rb3 hH 1 rfl hq) (show k ≤ b.length by omega)).row (bv_one _) (by rw [List.length_take]; unfold maxLen; omega) (by rw [List.length_take]; omega) ?_)
      clear hH; intro v18 w19 hH
      replace hH := hH.row_eq 4 (l' := (b.take k).length) (xs' := bv (b.take k)) rfl (Nat.zero_add _) (List.nil_append _)
      obtain ⟨A20, c21, rfl, hl22, hm23⟩ := hH.row_form 4 rfl
      refine gl_ops 1 [(0, .pointer (some ⟨xb, 0, none⟩)), (1, .int .i64 3), (2, .string (bs nm)), (4, .int .i64 ((k : Nat) : Int)), (12, .pointer (some ⟨b3, 0, none⟩)), (15, .bool true), (116, .slice A20 ((b.take k).length) c21), (117, .pointer (some ⟨b3, 1, none⟩))] (by kernel_rfl) ?_
      refine gl_st (st_storeK (v := .slice A20 ((b.take k).length) c21) 2 rfl rfl rfl hH rfl rfl rfl (by kernel_rfl) rfl (by simp) ?_)
      clear hH; intro w24 hH
      refine gl_done rfl ?_
      refine sw_next ?_
      refine sw_region ?_  -- R25 ref.go:123
      refine gl_ops 1 [(0, .pointer (some ⟨xb, 0, none⟩)), (1, .int .i64 3), (2, .string (bs nm)), (4, .int .i64 ((k : Nat) : Int)), (12, .pointer (some ⟨b3, 0, none⟩)), (15, .bool true), (118, .pointer (some ⟨b3, 2, none⟩))] (by kernel_rfl) ?_
      refine gl_q rfl rfl rfl (rd_loadK 2 (by kernel_rfl) hH rfl rfl rfl) ?_
      refine gl_ops 2 [(0, .pointer (some ⟨xb, 0, none⟩)), (1, .int .i64 3), (2, .string (bs nm)), (12, .pointer (some ⟨b3, 0, none⟩)), (15, .bool true), (121, .int .i64 (if ((k : Nat) : Int) < ((sr : Nat) : Int) then ((k : Nat) : Int) else ((sr : Nat) : Int)))] (by kernel_rfl) ?_
      refine gl_cv 121 (.int .i64 (((min sr k) : Nat) : Int)) (cv_minN) rfl ?_
      refine gl_ops 1 [(0, .pointer (some ⟨xb, 0, none⟩)), (1, .int .i64 3), (2, .string (bs nm)), (12, .pointer (some ⟨b3, 0, none⟩)), (15, .bool true), (121, .int .i64 (((min sr k) : Nat) : Int)), (122, .pointer (some ⟨b3, 2, none⟩))] (by kernel_rfl) ?_
      refine gl_st (st_storeK (v := .int .i64 (((min sr k) : Nat) : Int)) 2 rfl rfl rfl hH rfl rfl rfl (by kernel_rfl) rfl (by simp) ?_)
      clear hH; intro w25 hH
      refine gl_done rfl ?_
      refine bkN ?_
      refine sw_next ?_
      refine sw_seq ?_
      refine sw_region ?_  -- R26 ref.go:125
      refine gl_ops 2 [(0, .pointer (some ⟨xb, 0, none⟩)), (2, .string (bs nm)), (12, .pointer (some ⟨b3, 0, none⟩)), (15, .bool true), (124, .bool false)] (by kernel_rfl) ?_
      refine gl_done rfl ?_
      refine sw_next ?_
      refine sw_false rfl rfl ?_
      refine sw_region ?_  -- R28 ref.go:128
      refine gl_ops 1 [(12, .pointer (some ⟨b3, 0, none⟩)), (15, .bool true), (128, .pointer (some ⟨xb, 0, none⟩))] (by kernel_rfl) ?_
      refine gl_q rfl rfl rfl (rd_loadKA (m := 3) 2 (by kernel_rfl) hH rfl rfl (by kernel_rfl) [.string (bs nm), .slice A20 ((b.take k).length) c21, .int .i64 (((min sr k) : Nat) : Int)] rfl rfl) ?_
      replace hH : Hp w w25 _ _ [.row (.slice Ar L.length cr) 89 3 L.length (rowC filC L), filRs L, .blk b3 89 [.string (bs nm), .slice A20 ((b.take k).length) c21, .int .i64 (((min sr k) : Nat) : Int)], .blk xb 87 [.slice Ar L.length cr, .bool D2.off, .int .i64 (actsI D2.ar), .int .i64 part], .row (.slice A20 ((b.take k).length) c21) 5 1 ((b.take k).length) (bv (b.take k))] := hH
      replace hH := hH.pick [3, 0, 1, 2, 4] (by kernel_rfl) (os' := [.blk xb 87 [.slice Ar L.length cr, .bool D2.off, .int .i64 (actsI D2.ar), .int .i64 part], .row (.slice Ar L.length cr) 89 3 L.length (rowC filC L), filRs L, .blk b3 89 [.string (bs nm), .slice A20 ((b.take k).length) c21, .int .i64 (((min sr k) : Nat) : Int)], .row (.slice A20 ((b.take k).length) c21) 5 1 ((b.take k).length) (bv (b.take k))]) (by kernel_rfl)
      replace hH : Hp w w25 _ _ ([.blk xb 87 [.slice Ar L.length cr, .bool D2.off, .int .i64 (actsI D2.ar), .int .i64 part], .row (.slice Ar L.length cr) 89 3 L.length (rowC filC L)] ++ [filRs L, .blk b3 89 [.string (bs nm), .slice A20 ((b.take k).length) c21, .int .i64 (((min sr k) : Nat) : Int)], .row (.slice A20 ((b.take k).length) c21) 5 1 ((b.take k).length) (bv (b.take k))]) := hH
      refine gl_st (st_call rfl rfl rfl (by kernel_rfl) rfl (RSet_ct xb _ L (⟨nm, (b.take k), (min sr k)⟩, Value.slice A20 ((b.take k).length) c21) _ _ _ _ hH.mine ⟨_, _, _, rfl⟩ hV (by omega)) ?_)
      rintro _ w26 ⟨rv2, rfl, hF27⟩
      replace hH := hH.turns hF27; clear hF27
      replace hH : Hp w w26 _ _ [filRs L, .blk b3 89 [.string (bs nm), .slice A20 ((b.take k).length) c21, .int .i64 (((min sr k) : Nat) : Int)], .row (.slice A20 ((b.take k).length) c21) 5 1 ((b.take k).length) (bv (b.take k)), .blk xb 87 [rv2, .bool D2.off, .int .i64 (actsI D2.ar), .int .i64 part], lstO rv2 (setL L (⟨nm, (b.take k), (min sr k)⟩, Value.slice A20 ((b.take k).length) c21))] := hH
      refine gl_done rfl ?_
      refine sw_next ?_
      refine sw_seq ?_
      refine sw_seq ?_
      refine sw_region ?_  -- R29 ref.go:131
      refine gl_ops 1 [(131, .bool true)] (by kernel_rfl) ?_
      refine gl_done rfl ?_
      refine sw_next ?_
      refine sw_true rfl rfl ?_
      refine sw_seq ?_
      refine sw_region ?_  -- R30 ref.go:132
      refine gl_ops 1 [(10, .int .i64 80)] (by kernel_rfl) ?_
      refine gl_done rfl ?_
      refine sw_next ?_
      refine sw_ret ?_
      refine thR ?_
      refine ret1 rfl rfl  ?_
      replace hH : Hp w w26 _ _ [filRs L, .blk b3 89 [.string (bs nm), .slice A20 ((b.take k).length) c21, .int .i64 (((min sr k) : Nat) : Int)], .row (.slice A20 ((b.take k).length) c21) 5 1 ((b.take k).length) (bv (b.take k)), .blk xb 87 [rv2, .bool D2.off, .int .i64 (actsI D2.ar), .int .i64 part], lstO rv2 (setL L (⟨nm, (b.take k), (min sr k)⟩, Value.slice A20 ((b.take k).length) c21))] := hH
      replace hH := hH.pick [2, 0, 1, 3, 4] (by kernel_rfl) (os' := [.row (.slice A20 ((b.take k).length) c21) 5 1 ((b.take k).length) (bv (b.take k)), filRs L, .blk b3 89 [.string (bs nm), .slice A20 ((b.take k).length) c21, .int .i64 (((min sr k) : Nat) : Int)], .blk xb 87 [rv2, .bool D2.off, .int .i64 (actsI D2.ar), .int .i64 part], lstO rv2 (setL L (⟨nm, (b.take k), (min sr k)⟩, Value.slice A20 ((b.take k).length) c21))]) (by kernel_rfl)
      replace hH : Hp w w26 _ _ (filR (⟨nm, (b.take k), (min sr k)⟩, Value.slice A20 ((b.take k).length) c21) :: filRs L :: [.blk b3 89 [.string (bs nm), .slice A20 ((b.take k).length) c21, .int .i64 (((min sr k) : Nat) : Int)], .blk xb 87 [rv2, .bool D2.off, .int .i64 (actsI D2.ar), .int .i64 part], lstO rv2 (setL L (⟨nm, (b.take k), (min sr k)⟩, Value.slice A20 ((b.take k).length) c21))]) := hH
      replace hH := rs_setL hH
      replace hH : Hp w w26 _ _ [filRs (setL L (⟨nm, (b.take k), (min sr k)⟩, Value.slice A20 ((b.take k).length) c21)), .blk b3 89 [.string (bs nm), .slice A20 ((b.take k).length) c21, .int .i64 (((min sr k) : Nat) : Int)], .blk xb 87 [rv2, .bool D2.off, .int .i64 (actsI D2.ar), .int .i64 part], lstO rv2 (setL L (⟨nm, (b.take k), (min sr k)⟩, Value.slice A20 ((b.take k).length) c21))] := hH
      replace hH := hH.pick [2, 3, 0, 1] (by kernel_rfl) (os' := [.blk xb 87 [rv2, .bool D2.off, .int .i64 (actsI D2.ar), .int .i64 part], lstO rv2 (setL L (⟨nm, (b.take k), (min sr k)⟩, Value.slice A20 ((b.take k).length) c21)), filRs (setL L (⟨nm, (b.take k), (min sr k)⟩, Value.slice A20 ((b.take k).length) c21)), .blk b3 89 [.string (bs nm), .slice A20 ((b.take k).length) c21, .int .i64 (((min sr k) : Nat) : Int)]]) (by kernel_rfl)
      replace hH := (hH.sublist (.cons_cons _ (.cons_cons _ (.cons_cons _ (List.nil_sublist _)))))
      replace hH : Hp w w26 _ _ [.blk xb 87 [rv2, .bool D2.off, .int .i64 (actsI D2.ar), .int .i64 part], lstO rv2 (setL L (⟨nm, (b.take k), (min sr k)⟩, Value.slice A20 ((b.take k).length) c21)), filRs (setL L (⟨nm, (b.take k), (min sr k)⟩, Value.slice A20 ((b.take k).length) c21))] := hH
      exact rfin_do (kind := 3) (th := true) (L' := setL L (⟨nm, (b.take k), (min sr k)⟩, Value.slice A20 ((b.take k).length) c21)) (rv' := rv2) (p) 80 (by simp) rfl hm0 (fun h => by have h3 := h.2; rw [hold] at h3; simp only at h3; omega) hcut (.inr (.inr (by rw [hpt]; omega))) (by simp) (by rw [setL_fs hF hG.srt]; unfold doF; rw [hold, Int.toNat_natCast] <;> rfl) ((hH.close (r := [])).turned)
    try simp only [decide_eq_false_iff_not, beq_eq_false_iff_ne, bne_eq_false_iff_eq, ne_eq, Decidable.not_not, Int.not_lt, Int.not_le, Bool.not_eq_false', beq_iff_eq, bne_iff_ne, decide_eq_true_eq] at hc8
    have hnrun : ¬ modI part 2 = 1 := by omega
    refine sw_skip ?_
    refine sw_next ?_
    refine sw_seq ?_
    refine sw_seq ?_
    refine sw_region ?_  -- R29 ref.go:131
    refine gl_ops 1 [(131, .bool true)] (by kernel_rfl) ?_
    refine gl_done rfl ?_
    refine sw_next ?_
    refine sw_true rfl rfl ?_
    refine sw_seq ?_
    refine sw_region ?_  -- R30 ref.go:132
    refine gl_ops 1 [(10, .int .i64 80)] (by kernel_rfl) ?_
    refine gl_done rfl ?_
    refine sw_next ?_
    refine sw_ret ?_
    refine thR ?_
    refine ret1 rfl rfl  ?_
    replace hH : Hp w w14 _ _ [.row (.slice Ar L.length cr) 89 3 L.length (rowC filC L), filRs L, .blk b3 89 [.string (bs nm), .slice Af b.length cf, .int .i64 ((sr : Nat) : Int)], .blk xb 87 [.slice Ar L.length cr, .bool D2.off, .int .i64 (actsI D2.ar), .int .i64 part]] := hH
    replace hH := hH.pick [3, 0, 1, 2] (by kernel_rfl) (os' := [.blk xb 87 [.slice Ar L.length cr, .bool D2.off, .int .i64 (actsI D2.ar), .int .i64 part], .row (.slice Ar L.length cr) 89 3 L.length (rowC filC L), filRs L, .blk b3 89 [.string (bs nm), .slice Af b.length cf, .int .i64 ((sr : Nat) : Int)]]) (by kernel_rfl)
    replace hH := (hH.sublist (.cons_cons _ (.cons_cons _ (.cons_cons _ (List.nil_sublist _)))))
    replace hH : Hp w w14 _ _ [.blk xb 87 [.slice Ar L.length cr, .bool D2.off, .int .i64 (actsI D2.ar), .int .i64 part], .row (.slice Ar L.length cr) 89 3 L.length (rowC filC L), filRs L] := hH
    exact rfin_not (kind := 3) (th := true) hF 80 (by simp) rfl hm0 (fun h => by have h3 := h.2; rw [hold] at h3; simp only at h3; omega) hcut (by rw [hpt]; simp [hnrun]) ((hH.close (r := [])).turned)
  refine gl_cv 15 (.bool false) (by rw [hg6]) rfl ?_
  try simp only [decide_eq_false_iff_not, beq_eq_false_iff_ne, bne_eq_false_iff_eq, ne_eq, Decidable.not_not, Int.not_lt, Int.not_le, Bool.not_eq_false', beq_iff_eq, bne_iff_ne, decide_eq_true_eq] at hg6
  subst hg6
  refine gl_ops 3 [(0, .pointer (some ⟨xb, 0, none⟩)), (1, .int .i64 3), (2, .string (bs nm)), (3, .slice Ap p.length cp), (4, .int .i64 ((k : Nat) : Int)), (12, .pointer (some ⟨b3, 0, none⟩)), (14, .int .i64 part), (15, .bool false), (65, .bool false)] (by kernel_rfl) ?_
  refine gl_done rfl ?_
  refine sw_next ?_
  refine sw_false rfl rfl ?_
  refine sw_skip ?_
  refine sw_next ?_
  refine sw_seq ?_
  refine sw_seq ?_
  refine sw_region ?_  -- R14 ref.go:112
  refine gl_ops 11 [(0, .pointer (some ⟨xb, 0, none⟩)), (1, .int .i64 3), (2, .string (bs nm)), (3, .slice Ap p.length cp), (4, .int .i64 ((k : Nat) : Int)), (12, .pointer (some ⟨b3, 0, none⟩)), (15, .bool false), (83, .bool true)] (by kernel_rfl) ?_
  refine gl_done rfl ?_
  refine sw_next ?_
  refine sw_true rfl rfl ?_
  refine sw_seq ?_
  refine sw_seq ?_
  refine sw_region ?_  -- R15 ref.go:113
  refine gl_ops 1 [(0, .pointer (some ⟨xb, 0, none⟩)), (1, .int .i64 3), (2, .string (bs nm)), (3, .slice Ap p.length cp), (4, .int .i64 ((k : Nat) : Int)), (12, .pointer (some ⟨b3, 0, none⟩)), (15, .bool false), (84, .int .i64 3)] (by kernel_rfl) ?_
  refine gl_done rfl ?_
  refine sw_next ?_
  refine sw_block ?_
  refine sw_seq ?_
  refine sw_region ?_  -- R16 ref.go:114
  refine gl_ops 2 [(0, .pointer (some ⟨xb, 0, none⟩)), (1, .int .i64 3), (2, .string (bs nm)), (3, .slice Ap p.length cp), (4, .int .i64 ((k : Nat) : Int)), (12, .pointer (some ⟨b3, 0, none⟩)), (15, .bool false), (84, .int .i64 3), (85, .bool false)] (by kernel_rfl) ?_
  refine gl_done rfl ?_
  refine sw_next ?_
  refine sw_false rfl rfl ?_
  refine sw_seq ?_
  refine sw_region ?_  -- R18 ref.go:116
  refine gl_ops 2 [(0, .pointer (some ⟨xb, 0, none⟩)), (1, .int .i64 3), (2, .string (bs nm)), (3, .slice Ap p.length cp), (4, .int .i64 ((k : Nat) : Int)), (12, .pointer (some ⟨b3, 0, none⟩)), (15, .bool false), (84, .int .i64 3), (94, .bool false)] (by kernel_rfl) ?_
  refine gl_done rfl ?_
  refine sw_next ?_
  refine sw_false rfl rfl ?_
  refine sw_seq ?_
  refine sw_region ?_  -- R20 ref.go:118
  refine gl_ops 2 [(0, .pointer (some ⟨xb, 0, none⟩)), (1, .int .i64 3), (2, .string (bs nm)), (3, .slice Ap p.length cp), (4, .int .i64 ((k : Nat) : Int)), (12, .pointer (some ⟨b3, 0, none⟩)), (15, .bool false), (84, .int .i64 3), (100, .bool false)] (by kernel_rfl) ?_
  refine gl_done rfl ?_
  refine sw_next ?_
  refine sw_false rfl rfl ?_
  refine sw_seq ?_
  refine sw_region ?_  -- R23 ref.go:121
  refine gl_ops 2 [(0, .pointer (some ⟨xb, 0, none⟩)), (1, .int .i64 3), (2, .string (bs nm)), (4, .int .i64 ((k : Nat) : Int)), (12, .pointer (some ⟨b3, 0, none⟩)), (15, .bool false), (109, .bool true)] (by kernel_rfl) ?_
  refine gl_done rfl ?_
  refine sw_next ?_
  refine sw_true rfl rfl ?_
  refine sw_seq ?_
  refine sw_region ?_  -- R24 ref.go:122
  refine gl_st (st_buildS0 (e := 5) (m := 1) rfl rfl rfl (by kernel_rfl) (by kernel_rfl) hH ?_)
  clear hH; intro b28 w29 hH
  refine gl_ops 1 [(0, .pointer (some ⟨xb, 0, none⟩)), (1, .int .i64 3), (2, .string (bs nm)), (4, .int .i64 ((k : Nat) : Int)), (12, .pointer (some ⟨b3, 0, none⟩)), (15, .bool false), (111, .slice (some ⟨b28, 0, none⟩) 0 0), (112, .pointer (some ⟨b3, 1, none⟩))] (by kernel_rfl) ?_
  refine gl_q rfl rfl rfl (rd_loadK 2 (by kernel_rfl) hH rfl rfl rfl) ?_
  refine gl_ops 1 [(0, .pointer (some ⟨xb, 0, none⟩)), (1, .int .i64 3), (2, .string (bs nm)), (4, .int .i64 ((k : Nat) : Int)), (12, .pointer (some ⟨b3, 0, none⟩)), (15, .bool false), (111, .slice (some ⟨b28, 0, none⟩) 0 0), (113, .slice Af b.length cf), (114, .int .i64 ((k : Nat) : Int))] (by kernel_rfl) ?_
  refine gl_q rfl rfl rfl (rd_cut (e := 5) (m := 1) (by kernel_rfl) (by kernel_rfl) rfl (.inl ⟨rfl, rfl⟩) (.inr ⟨_, _, rfl, rfl⟩) (cut_f (show k ≤ b.length by omega) (by omega))) ?_
  refine gl_st (st_appH (e := 5) (zv := .int .u8 0) (m := 1) (bytes := 1) 4 rfl rfl rfl (by kernel_rfl) (by kernel_rfl) rfl (by decide) hH rfl rfl rfl (rb_front (filRs_rb3 hH 1 rfl hq) (show k ≤ b.length by omega)).row (bv_one _) (by rw [List.length_take]; unfold maxLen; omega) (by rw [List.length_take]; omega) ?_)
  clear hH; intro v30 w31 hH
  replace hH := hH.row_eq 4 (l' := (b.take k).length) (xs' := bv (b.take k)) rfl (Nat.zero_add _) (List.nil_append _)
  obtain ⟨A32, c33, rfl, hl34, hm35⟩ := hH.row_form 4 rfl
  refine gl_ops 1 [(0, .pointer (some ⟨xb, 0, none⟩)), (1, .int .i64 3), (2, .string (bs nm)), (4, .int .i64 ((k : Nat) : Int)), (12, .pointer (some ⟨b3, 0, none⟩)), (15, .bool false), (116, .slice A32 ((b.take k).length) c33), (117, .pointer (some ⟨b3, 1, none⟩))] (by kernel_rfl) ?_
  refine gl_st (st_storeK (v := .slice A32 ((b.take k).length) c33) 2 rfl rfl rfl hH rfl rfl rfl (by kernel_rfl) rfl (by simp) ?_)
  clear hH; intro w36 hH
  refine gl_done rfl ?_
  refine sw_next ?_
  refine sw_region ?_  -- R25 ref.go:123
  refine gl_ops 1 [(0, .pointer (some ⟨xb, 0, none⟩)), (1, .int .i64 3), (2, .string (bs nm)), (4, .int .i64 ((k : Nat) : Int)), (12, .pointer (some ⟨b3, 0, none⟩)), (15, .bool false), (118, .pointer (some ⟨b3, 2, none⟩))] (by kernel_rfl) ?_
  refine gl_q rfl rfl rfl (rd_loadK 2 (by kernel_rfl) hH rfl rfl rfl) ?_
  refine gl_ops 2 [(0, .pointer (some ⟨xb, 0, none⟩)), (1, .int .i64 3), (2, .string (bs nm)), (12, .pointer (some ⟨b3, 0, none⟩)), (15, .bool false), (121, .int .i64 (if ((k : Nat) : Int) < ((sr : Nat) : Int) then ((k : Nat) : Int) else ((sr : Nat) : Int)))] (by kernel_rfl) ?_
  refine gl_cv 121 (.int .i64 (((min sr k) : Nat) : Int)) (cv_minN) rfl ?_
  refine gl_ops 1 [(0, .pointer (some ⟨xb, 0, none⟩)), (1, .int .i64 3), (2, .string (bs nm)), (12, .pointer (some ⟨b3, 0, none⟩)), (15, .bool false), (121, .int .i64 (((min sr k) : Nat) : Int)), (122, .pointer (some ⟨b3, 2, none⟩))] (by kernel_rfl) ?_
  refine gl_st (st_storeK (v := .int .i64 (((min sr k) : Nat) : Int)) 2 rfl rfl rfl hH rfl rfl rfl (by kernel_rfl) rfl (by simp) ?_)
  clear hH; intro w37 hH
  refine gl_done rfl ?_
  refine bkN ?_
  refine sw_next ?_
  refine sw_seq ?_
  refine sw_region ?_  -- R26 ref.go:125
  refine gl_ops 2 [(0, .pointer (some ⟨xb, 0, none⟩)), (2, .string (bs nm)), (12, .pointer (some ⟨b3, 0, none⟩)), (15, .bool false), (124, .bool false)] (by kernel_rfl) ?_
  refine gl_done rfl ?_
  refine sw_next ?_
  refine sw_false rfl rfl ?_
  refine sw_region ?_  -- R28 ref.go:128
  refine gl_ops 1 [(12, .pointer (some ⟨b3, 0, none⟩)), (15, .bool false), (128, .pointer (some ⟨xb, 0, none⟩))] (by kernel_rfl) ?_
  refine gl_q rfl rfl rfl (rd_loadKA (m := 3) 2 (by kernel_rfl) hH rfl rfl (by kernel_rfl) [.string (bs nm), .slice A32 ((b.take k).length) c33, .int .i64 (((min sr k) : Nat) : Int)] rfl rfl) ?_
  replace hH : Hp w w37 _ _ [.row (.slice Ar L.length cr) 89 3 L.length (rowC filC L), filRs L, .blk b3 89 [.string (bs nm), .slice A32 ((b.take k).length) c33, .int .i64 (((min sr k) : Nat) : Int)], .blk xb 87 [.slice Ar L.length cr, .bool D2.off, .int .i64 (actsI D2.ar), .int .i64 part], .row (.slice A32 ((b.take k).length) c33) 5 1 ((b.take k).length) (bv (b.take k))] := hH
  replace hH := hH.pick [3, 0, 1, 2, 4] (by kernel_rfl) (os' := [.blk xb 87 [.slice Ar L.length cr, .bool D2.off, .int .i64 (actsI D2.ar), .int .i64 part], .row (.slice Ar L.length cr) 89 3 L.length (rowC filC L), filRs L, .blk b3 89 [.string (bs nm), .slice A32 ((b.take k).length) c33, .int .i64 (((min sr k) : Nat) : Int)], .row (.slice A32 ((b.take k).length) c33) 5 1 ((b.take k).length) (bv (b.take k))]) (by kernel_rfl)
  replace hH : Hp w w37 _ _ ([.blk xb 87 [.slice Ar L.length cr, .bool D2.off, .int .i64 (actsI D2.ar), .int .i64 part], .row (.slice Ar L.length cr) 89 3 L.length (rowC filC L)] ++ [filRs L, .blk b3 89 [.string (bs nm), .slice A32 ((b.take k).length) c33, .int .i64 (((min sr k) : Nat) : Int)], .row (.slice A32 ((b.take k).length) c33) 5 1 ((b.take k).length) (bv (b.take k))]) := hH
  refine gl_st (st_call rfl rfl rfl (by kernel_rfl) rfl (RSet_ct xb _ L (⟨nm, (b.take k), (min sr k)⟩, Value.slice A32 ((b.take k).length) c33) _ _ _ _ hH.mine ⟨_, _, _, rfl⟩ hV (by omega)) ?_)
  rintro _ w38 ⟨rv2, rfl, hF39⟩
  replace hH := hH.turns hF39; clear hF39
  replace hH : Hp w w38 _ _ [filRs L, .blk b3 89 [.string (bs nm), .slice A32 ((b.take k).length) c33, .int .i64 (((min sr k) : Nat) : Int)], .row (.slice A32 ((b.take k).length) c33) 5 1 ((b.take k).length) (bv (b.take k)), .blk xb 87 [rv2, .bool D2.off, .int .i64 (actsI D2.ar), .int .i64 part], lstO rv2 (setL L (⟨nm, (b.take k), (min sr k)⟩, Value.slice A32 ((b.take k).length) c33))] := hH
  refine gl_done rfl ?_
  refine sw_next ?_
  refine sw_seq ?_
  refine sw_seq ?_
  refine sw_region ?_  -- R29 ref.go:131
  refine gl_ops 1 [(131, .bool false)] (by kernel_rfl) ?_
  refine gl_done rfl ?_
  refine sw_next ?_
  refine sw_false rfl rfl ?_
  refine sw_skip ?_
  refine sw_next ?_
  refine sw_seq ?_
  refine sw_region ?_  -- R31 ref.go:134
  refine gl_ops 1 [(10, .int .i64 0)] (by kernel_rfl) ?_
  refine gl_done rfl ?_
  refine sw_next ?_
  refine sw_ret ?_
  refine ret1 rfl rfl  ?_
  replace hH : Hp w w38 _ _ [filRs L, .blk b3 89 [.string (bs nm), .slice A32 ((b.take k).length) c33, .int .i64 (((min sr k) : Nat) : Int)], .row (.slice A32 ((b.take k).length) c33) 5 1 ((b.take k).length) (bv (b.take k)), .blk xb 87 [rv2, .bool D2.off, .int .i64 (actsI D2.ar), .int .i64 part], lstO rv2 (setL L (⟨nm, (b.take k), (min sr k)⟩, Value.slice A32 ((b.take k).length) c33))] := hH
  replace hH := hH.pick [2, 0, 1, 3, 4] (by kernel_rfl) (os' := [.row (.slice A32 ((b.take k).length) c33) 5 1 ((b.take k).length) (bv (b.take k)), filRs L, .blk b3 89 [.string (bs nm), .slice A32 ((b.take k).length) c33, .int .i64 (((min sr k) : Nat) : Int)], .blk xb 87 [rv2, .bool D2.off, .int .i64 (actsI D2.ar), .int .i64 part], lstO rv2 (setL L (⟨nm, (b.take k), (min sr k)⟩, Value.slice A32 ((b.take k).length) c33))]) (by kernel_rfl)
  replace hH : Hp w w38 _ _ (filR (⟨nm, (b.take k), (min sr k)⟩, Value.slice A32 ((b.take k).length) c33) :: filRs L :: [.blk b3 89 [.string (bs nm), .slice A32 ((b.take k).length) c33, .int .i64 (((min sr k) : Nat) : Int)], .blk xb 87 [rv2, .bool D2.off, .int .i64 (actsI D2.ar), .int .i64 part], lstO rv2 (setL L (⟨nm, (b.take k), (min sr k)⟩, Value.slice A32 ((b.take k).length) c33))]) := hH
  replace hH := rs_setL hH
  replace hH : Hp w w38 _ _ [filRs (setL L (⟨nm, (b.take k), (min sr k)⟩, Value.slice A32 ((b.take k).length) c33)), .blk b3 89 [.string (bs nm), .slice A32 ((b.take k).length) c33, .int .i64 (((min sr k) : Nat) : Int)], .blk xb 87 [rv2, .bool D2.off, .int .i64 (actsI D2.ar), .int .i64 part], lstO rv2 (setL L (⟨nm, (b.take k), (min sr k)⟩, Value.slice A32 ((b.take k).length) c33))] := hH
  replace hH := hH.pick [2, 3, 0, 1] (by kernel_rfl) (os' := [.blk xb 87 [rv2, .bool D2.off, .int .i64 (actsI D2.ar), .int .i64 part], lstO rv2 (setL L (⟨nm, (b.take k), (min sr k)⟩, Value.slice A32 ((b.take k).length) c33)), filRs (setL L (⟨nm, (b.take k), (min sr k)⟩, Value.slice A32 ((b.take k).length) c33)), .blk b3 89 [.string (bs nm), .slice A32 ((b.take k).length) c33, .int .i64 (((min sr k) : Nat) : Int)]]) (by kernel_rfl)
  replace hH := (hH.sublist (.cons_cons _ (.cons_cons _ (.cons_cons _ (List.nil_sublist _)))))
  replace hH : Hp w w38 _ _ [.blk xb 87 [rv2, .bool D2.off, .int .i64 (actsI D2.ar), .int .i64 part], lstO rv2 (setL L (⟨nm, (b.take k), (min sr k)⟩, Value.slice A32 ((b.take k).length) c33)), filRs (setL L (⟨nm, (b.take k), (min sr k)⟩, Value.slice A32 ((b.take k).length) c33))] := hH
  exact rfin_do (kind := 3) (th := true) (L' := setL L (⟨nm, (b.take k), (min sr k)⟩, Value.slice A32 ((b.take k).length) c33)) (rv' := rv2) (p) 0 (by simp) rfl hm0 (fun h => by have h3 := h.2; rw [hold] at h3; simp only at h3; omega) hcut (.inl rfl) (by simp) (by rw [setL_fs hF hG.srt]; unfold doF; rw [hold, Int.toNat_natCast] <;> rfl) ((hH.close (r := [])).turned)
theorem RDo4_ct (xb : Nat) (rv : Value) (D : Dsk) (part : Int) (L : FV) (nm : List UInt8) (vp : Value) (p : List UInt8) (n : Int) (M : Nat) (w : World) (hM : Mine w (ownR xb rv D part L)) (hF : L.map (·.1) = D.fs) (hA : ArOk D.ar) (hP : PartOk D.ar part) (hG : Good D.fs M) (hMM : M ≤ 4194304) (hN : L.length ≤ 900000) (hs : nm.length ≤ 140737488355328) (hp : RB (off w (blksOf (ownR xb rv D part L))) vp p) (hpl : p.length ≤ 1048576) :
    Fun Tryd.prog 70 [.pointer (some ⟨xb, 0, none⟩), .int .i64 4, .string (bs nm), vp, .int .i64 n] w fun v w' => RPost xb rv D part L (doD D 4 nm p n) w v w' := by
  obtain ⟨Ar, cr, rfl, hcr1, hcr2⟩ := (Row.of_own (hM.1 _ (List.mem_singleton.2 rfl) (lstO rv L) (by simp [rdkO]))).form
  have hcr3 := hcr2
  simp only [maxLen] at hcr3
  have hV : SlV L := filRs_sl (hM.1 _ (List.mem_singleton.2 rfl) (filRs L) (by simp [rdkO]))
  obtain ⟨Ap, cp, rfl, hp1, hp2⟩ := hp.row.form
  refine fun_of_sw Tryd.func70 rfl 132 rfl rfl ?_
  have hH : Hp w w (off w (blksOf (ownR xb (.slice Ar L.length cr) D part L))) (blksOf (ownR xb (.slice Ar L.length cr) D part L)) (rdkO xb (.slice Ar L.length cr) D.off (actsI D.ar) part L ++ []) := (Hp.start_mine hM).open_
  replace hH : Hp w w _ _ [.blk xb 87 [.slice Ar L.length cr, .bool D.off, .int .i64 (actsI D.ar), .int .i64 part], .row (.slice Ar L.length cr) 89 3 L.length (rowC filC L), filRs L] := hH
  refine sw_seq ?_
  refine sw_region ?_  -- R0 ref.go:94
  refine gl_ops 1 [(0, .pointer (some ⟨xb, 0, none⟩)), (1, .int .i64 4), (2, .string (bs nm)), (3, .slice Ap p.length cp), (4, .int .i64 n)] (by kernel_rfl) ?_
  refine gl_done rfl ?_
  refine sw_next ?_
  refine sw_seq ?_
  refine sw_region ?_  -- R1 ref.go:95
  refine gl_ops 8 [(0, .pointer (some ⟨xb, 0, none⟩)), (1, .int .i64 4), (2, .string (bs nm)), (3, .slice Ap p.length cp), (4, .int .i64 n), (16, .pointer (some ⟨xb, 0, none⟩)), (17, .string (bs nm)), (23, .bool true)] (by kernel_rfl) ?_
  refine gl_st (st_call rfl rfl rfl (by kernel_rfl) rfl (RMay18_ct xb _ L D nm true _ (hH.blk_cell 0 rfl rfl) (hH.blk_cell 0 rfl rfl) (hH.row_reads 1 rfl) hF hs) ?_)
  rintro _ w1 ⟨rfl, hF2⟩
  replace hH := hH.call hF2; clear hF2
  refine gl_ops 1 [(0, .pointer (some ⟨xb, 0, none⟩)), (1, .int .i64 4), (2, .string (bs nm)), (3, .slice Ap p.length cp), (4, .int .i64 n), (11, .int .i64 ((mayE D nm true : Nat) : Int))] (by kernel_rfl) ?_
  refine gl_done rfl ?_
  refine sw_next ?_
  refine sw_seq ?_
  refine sw_seq ?_
  refine sw_region ?_  -- R2 ref.go:96
  refine gl_ops 2 [(0, .pointer (some ⟨xb, 0, none⟩)), (1, .int .i64 4), (2, .string (bs nm)), (3, .slice Ap p.length cp), (4, .int .i64 n), (11, .int .i64 ((mayE D nm true : Nat) : Int)), (26, .bool (((mayE D nm true : Nat) : Int) != (0 : Int)))] (by kernel_rfl) ?_
  refine gl_done rfl ?_
  refine sw_next ?_
  refine sw_cond rfl rfl (fun hc1 => ?_) (fun hc1 => ?_)
  ·
    try simp only [decide_eq_true_eq, beq_iff_eq, bne_iff_ne, ne_eq, Bool.not_eq_true', beq_eq_false_iff_ne, bne_eq_false_iff_eq, decide_eq_false_iff_not, Int.not_lt, Int.not_le] at hc1
    refine sw_seq ?_
    refine sw_region ?_  -- R3 ref.go:97
    refine gl_ops 2 [(10, .int .i64 ((mayE D nm true : Nat) : Int))] (by kernel_rfl) ?_
    refine gl_done rfl ?_
    refine sw_next ?_
    refine sw_ret ?_
    refine thR ?_
    refine ret1 rfl rfl  ?_
    replace hH := (hH.sublist (.cons_cons _ (.cons_cons _ (.cons_cons _ (List.nil_sublist _)))))
    replace hH : Hp w w1 _ _ [.blk xb 87 [.slice Ar L.length cr, .bool D.off, .int .i64 (actsI D.ar), .int .i64 part], .row (.slice Ar L.length cr) 89 3 L.length (rowC filC L), filRs L] := hH
    exact rfin_err (kind := 4) (th := true) hF rfl (by omega) ((hH.close (r := [])).turned)
  try simp only [decide_eq_false_iff_not, beq_eq_false_iff_ne, bne_eq_false_iff_eq, ne_eq, Decidable.not_not, Int.not_lt, Int.not_le, Bool.not_eq_false', beq_iff_eq, bne_iff_ne, decide_eq_true_eq] at hc1
  have hm0 : mayE D nm true = 0 := by omega
  have hlt := rdk_lt hF hm0
  obtain ⟨b, sr, fv, hq, hold, hmem⟩ := rdk_find hF hlt
  obtain ⟨Af, cf, rfl, hf1, hf2⟩ := (filRs_rb3 hH 2 rfl hq).row.form
  have hbM := hG.short _ hmem
  have hsr := hG.sure _ hmem
  simp only at hbM hsr
  refine sw_skip ?_
  refine sw_next ?_
  refine sw_seq ?_
  refine sw_region ?_  -- R4 ref.go:99
  refine gl_ops 2 [(0, .pointer (some ⟨xb, 0, none⟩)), (1, .int .i64 4), (2, .string (bs nm)), (3, .slice Ap p.length cp), (4, .int .i64 n), (29, .agg #[.string (bs nm), .slice none 0 0, .int .i64 0])] (by kernel_rfl) ?_
  refine gl_st (st_allocH rfl rfl rfl (cs := [.string (bs []), .slice none 0 0, .int .i64 0]) (by kernel_rfl) hH ?_)
  clear hH; intro b3 w4 hH
  refine gl_st (st_storeKA (vs := [.string (bs nm), .slice none 0 0, .int .i64 0]) 3 rfl rfl rfl hH rfl rfl (by kernel_rfl) (by kernel_rfl) rfl (by simp) [.string (bs nm), .slice none 0 0, .int .i64 0] rfl ?_)
  clear hH; intro w5 hH
  refine gl_done rfl ?_
  refine sw_next ?_
  refine sw_seq ?_
  refine sw_region ?_  -- R5 ref.go:100
  refine gl_ops 2 [(0, .pointer (some ⟨xb, 0, none⟩)), (1, .int .i64 4), (2, .string (bs nm)), (3, .slice Ap p.length cp), (4, .int .i64 n), (12, .pointer (some ⟨b3, 0, none⟩)), (30, .pointer (some ⟨xb, 0, none⟩)), (31, .string (bs nm))] (by kernel_rfl) ?_
  refine gl_st (st_call rfl rfl rfl (by kernel_rfl) rfl (RFind_ct xb _ L nm _ (hH.blk_cell 0 rfl rfl) (hH.row_reads 1 rfl)) ?_)
  rintro _ w6 ⟨rfl, hF7⟩
  replace hH := hH.call hF7; clear hF7
  refine gl_cv 32 (.int .i64 ((fndI L nm : Nat) : Int)) (by unfold fndZ; rw [if_pos hlt]) rfl ?_
  refine gl_ops 1 [(0, .pointer (some ⟨xb, 0, none⟩)), (1, .int .i64 4), (2, .string (bs nm)), (3, .slice Ap p.length cp), (4, .int .i64 n), (12, .pointer (some ⟨b3, 0, none⟩)), (13, .int .i64 ((fndI L nm : Nat) : Int))] (by kernel_rfl) ?_
  refine gl_done rfl ?_
  refine sw_next ?_
  refine sw_seq ?_
  refine sw_seq ?_
  refine sw_region ?_  -- R6 ref.go:101
  refine gl_ops 2 [(0, .pointer (some ⟨xb, 0, none⟩)), (1, .int .i64 4), (2, .string (bs nm)), (3, .slice Ap p.length cp), (4, .int .i64 n), (12, .pointer (some ⟨b3, 0, none⟩)), (13, .int .i64 ((fndI L nm : Nat) : Int)), (34, .bool (decide (((fndI L nm : Nat) : Int) ≥ (0 : Int))))] (by kernel_rfl) ?_
  refine gl_done rfl ?_
  refine sw_next ?_
  refine sw_cond rfl rfl (fun hc2 => ?_) (fun hc2 => ?_)
  rotate_left
  · exact absurd hc2 (by simp only [decide_eq_false_iff_not, beq_eq_false_iff_ne, bne_eq_false_iff_eq, ne_eq, Decidable.not_not, Int.not_lt, Int.not_le]; omega)
  clear hc2
  refine sw_region ?_  -- R7 ref.go:102
  refine gl_ops 3 [(0, .pointer (some ⟨xb, 0, none⟩)), (1, .int .i64 4), (2, .string (bs nm)), (3, .slice Ap p.length cp), (4, .int .i64 n), (12, .pointer (some ⟨b3, 0, none⟩)), (13, .int .i64 ((fndI L nm : Nat) : Int)), (37, .pointer (some ⟨xb, 0, none⟩))] (by kernel_rfl) ?_
  refine gl_q rfl rfl rfl (rd_loadK 0 (by kernel_rfl) hH rfl rfl rfl) ?_
  obtain ⟨b9, hb8, hi10⟩ := hH.row_idx 1 rfl (fndI L nm) (by omega)
  refine gl_ops 1 [(0, .pointer (some ⟨xb, 0, none⟩)), (1, .int .i64 4), (2, .string (bs nm)), (3, .slice Ap p.length cp), (4, .int .i64 n), (12, .pointer (some ⟨b3, 0, none⟩)), (38, .slice Ar L.length cr), (39, .int .i64 ((fndI L nm : Nat) : Int))] (by kernel_rfl) ?_
  refine gl_q rfl rfl rfl (rd_idx (e := 89) (m := 3) (by kernel_rfl) (by kernel_rfl) rfl rfl hi10) ?_
  refine gl_q rfl rfl rfl (rd_loadOA (q := 3) 1 (by kernel_rfl) hH rfl rfl hb8 (by kernel_rfl) [.string (bs nm), .slice Af b.length cf, .int .i64 ((sr : Nat) : Int)] rfl (rowC_allO filC_len hq _ rfl)) ?_
  refine gl_st (st_storeKA (vs := [.string (bs nm), .slice Af b.length cf, .int .i64 ((sr : Nat) : Int)]) 3 rfl rfl rfl hH rfl rfl (by kernel_rfl) (by kernel_rfl) rfl (by simp) [.string (bs nm), .slice Af b.length cf, .int .i64 ((sr : Nat) : Int)] rfl ?_)
  clear hH; intro w11 hH
  refine gl_done rfl ?_
  refine sw_next ?_
  refine sw_seq ?_
  refine sw_seq ?_
  refine sw_region ?_  -- R8 ref.go:104
  refine gl_ops 13 [(0, .pointer (some ⟨xb, 0, none⟩)), (1, .int .i64 4), (2, .string (bs nm)), (3, .slice Ap p.length cp), (4, .int .i64 n), (12, .pointer (some ⟨b3, 0, none⟩)), (54, .bool false)] (by kernel_rfl) ?_
  refine gl_done rfl ?_
  refine sw_next ?_
  refine sw_false rfl rfl ?_
  refine sw_skip ?_
  refine sw_next ?_
  refine sw_seq ?_
  refine sw_region ?_  -- R10 ref.go:107
  refine gl_ops 3 [(0, .pointer (some ⟨xb, 0, none⟩)), (1, .int .i64 4), (2, .string (bs nm)), (3, .slice Ap p.length cp), (4, .int .i64 n), (12, .pointer (some ⟨b3, 0, none⟩)), (57, .pointer (some ⟨xb, 3, none⟩))] (by kernel_rfl) ?_
  refine gl_q rfl rfl rfl (rd_loadK 0 (by kernel_rfl) hH rfl rfl rfl) ?_
  refine gl_ops 1 [(0, .pointer (some ⟨xb, 0, none⟩)), (1, .int .i64 4), (2, .string (bs nm)), (3, .slice Ap p.length cp), (4, .int .i64 n), (12, .pointer (some ⟨b3, 0, none⟩)), (14, .int .i64 part)] (by kernel_rfl) ?_
  refine gl_done rfl ?_
  refine sw_next ?_
  refine sw_seq ?_
  refine sw_region ?_  -- R11 ref.go:108
  obtain ⟨D2, cu, pt, hcut⟩ : ∃ D2 cu pt, cutD D = (D2, cu, pt) := ⟨_, _, _, rfl⟩
  refine gl_ops 1 [(0, .pointer (some ⟨xb, 0, none⟩)), (1, .int .i64 4), (2, .string (bs nm)), (3, .slice Ap p.length cp), (4, .int .i64 n), (12, .pointer (some ⟨b3, 0, none⟩)), (14, .int .i64 part), (59, .pointer (some ⟨xb, 0, none⟩))] (by kernel_rfl) ?_
  replace hH : Hp w w11 _ _ ([.blk xb 87 [.slice Ar L.length cr, .bool D.off, .int .i64 (actsI D.ar), .int .i64 part]] ++ [.row (.slice Ar L.length cr) 89 3 L.length (rowC filC L), filRs L, .blk b3 89 [.string (bs nm), .slice Af b.length cf, .int .i64 ((sr : Nat) : Int)]]) := hH
  refine gl_st (st_call rfl rfl rfl (by kernel_rfl) rfl (RAct_ct xb _ D D2 cu pt part _ hcut hA hH.mine) ?_)
  rintro _ w12 ⟨rfl, hF13⟩
  replace hH := hH.turns hF13; clear hF13
  replace hH : Hp w w12 _ _ [.row (.slice Ar L.length cr) 89 3 L.length (rowC filC L), filRs L, .blk b3 89 [.string (bs nm), .slice Af b.length cf, .int .i64 ((sr : Nat) : Int)], .blk xb 87 [.slice Ar L.length cr, .bool D2.off, .int .i64 (actsI D2.ar), .int .i64 part]] := hH
  refine gl_ops 1 [(0, .pointer (some ⟨xb, 0, none⟩)), (1, .int .i64 4), (2, .string (bs nm)), (3, .slice Ap p.length cp), (4, .int .i64 n), (12, .pointer (some ⟨b3, 0, none⟩)), (14, .int .i64 part), (15, .bool cu)] (by kernel_rfl) ?_
  refine gl_done rfl ?_
  refine sw_next ?_
  refine sw_seq ?_
  refine sw_seq ?_
  refine sw_region ?_  -- R12 ref.go:109
  refine gl_ops 2 [(0, .pointer (some ⟨xb, 0, none⟩)), (1, .int .i64 4), (2, .string (bs nm)), (3, .slice Ap p.length cp), (4, .int .i64 n), (12, .pointer (some ⟨b3, 0, none⟩)), (14, .int .i64 part), (15, .bool cu), (62, .bool cu)] (by kernel_rfl) ?_
  refine gl_split 62 (b := cu) rfl (fun hg4 => ?_) (fun hg4 => ?_)
  ·
    refine gl_cv 15 (.bool true) (by rw [hg4]) rfl ?_
    try simp only [decide_eq_true_eq, beq_iff_eq, bne_iff_ne, ne_eq, Bool.not_eq_true', beq_eq_false_iff_ne, bne_eq_false_iff_eq, decide_eq_false_iff_not, Int.not_lt, Int.not_le] at hg4
    subst hg4
    have hpt := cut_part hcut hP rfl
    refine gl_ops 3 [(0, .pointer (some ⟨xb, 0, none⟩)), (1, .int .i64 4), (2, .string (bs nm)), (3, .slice Ap p.length cp), (4, .int .i64 n), (12, .pointer (some ⟨b3, 0, none⟩)), (14, .int .i64 part), (15, .bool true), (65, .bool false)] (by kernel_rfl) ?_
    refine gl_done rfl ?_
    refine sw_next ?_
    refine sw_false rfl rfl ?_
    refine sw_skip ?_
    refine sw_next ?_
    refine sw_seq ?_
    refine sw_seq ?_
    refine sw_region ?_  -- R14 ref.go:112
    refine gl_ops 8 [(0, .pointer (some ⟨xb, 0, none⟩)), (1, .int .i64 4), (2, .string (bs nm)), (3, .slice Ap p.length cp), (4, .int .i64 n), (12, .pointer (some ⟨b3, 0, none⟩)), (15, .bool true), (79, .bool false), (80, .int .i64 part)] (by kernel_rfl) ?_
    refine gl_st (st_call rfl rfl rfl (by kernel_rfl) rfl (RMod_ct part 2 _ (by omega) (by omega)) ?_)
    rintro _ w14 ⟨rfl, hF15⟩
    replace hH := hH.call hF15; clear hF15
    refine gl_ops 2 [(0, .pointer (some ⟨xb, 0, none⟩)), (1, .int .i64 4), (2, .string (bs nm)), (3, .slice Ap p.length cp), (4, .int .i64 n), (12, .pointer (some ⟨b3, 0, none⟩)), (15, .bool true), (83, .bool (((modI part 2 : Nat) : Int) == (1 : Int)))] (by kernel_rfl) ?_
    refine gl_done rfl ?_
    refine sw_next ?_
    refine sw_cond rfl rfl (fun hc6 => ?_) (fun hc6 => ?_)
    ·
      try simp only [decide_eq_true_eq, beq_iff_eq, bne_iff_ne, ne_eq, Bool.not_eq_true', beq_eq_false_iff_ne, bne_eq_false_iff_eq, decide_eq_false_iff_not, Int.not_lt, Int.not_le] at hc6
      refine sw_seq ?_
      refine sw_seq ?_
      refine sw_region ?_  -- R15 ref.go:113
      refine gl_ops 1 [(0, .pointer (some ⟨xb, 0, none⟩)), (1, .int .i64 4), (2, .string (bs nm)), (3, .slice Ap p.length cp), (4, .int .i64 n), (12, .pointer (some ⟨b3, 0, none⟩)), (15, .bool true), (84, .int .i64 4)] (by kernel_rfl) ?_
      refine gl_done rfl ?_
      refine sw_next ?_
      refine sw_block ?_
      refine sw_seq ?_
      refine sw_region ?_  -- R16 ref.go:114
      refine gl_ops 2 [(0, .pointer (some ⟨xb, 0, none⟩)), (1, .int .i64 4), (2, .string (bs nm)), (3, .slice Ap p.length cp), (4, .int .i64 n), (12, .pointer (some ⟨b3, 0, none⟩)), (15, .bool true), (84, .int .i64 4), (85, .bool false)] (by kernel_rfl) ?_
      refine gl_done rfl ?_
      refine sw_next ?_
      refine sw_false rfl rfl ?_
      refine sw_seq ?_
      refine sw_region ?_  -- R18 ref.go:116
      refine gl_ops 2 [(0, .pointer (some ⟨xb, 0, none⟩)), (1, .int .i64 4), (2, .string (bs nm)), (3, .slice Ap p.length cp), (4, .int .i64 n), (12, .pointer (some ⟨b3, 0, none⟩)), (15, .bool true), (84, .int .i64 4), (94, .bool false)] (by kernel_rfl) ?_
      refine gl_done rfl ?_
      refine sw_next ?_
      refine sw_false rfl rfl ?_
      refine sw_seq ?_
      refine sw_region ?_  -- R20 ref.go:118
      refine gl_ops 2 [(0, .pointer (some ⟨xb, 0, none⟩)), (1, .int .i64 4), (2, .string (bs nm)), (3, .slice Ap p.length cp), (4, .int .i64 n), (12, .pointer (some ⟨b3, 0, none⟩)), (15, .bool true), (84, .int .i64 4), (100, .bool false)] (by kernel_rfl) ?_
      refine gl_done rfl ?_
      refine sw_next ?_
      refine sw_false rfl rfl ?_
      refine sw_seq ?_
      refine sw_region ?_  -- R23 ref.go:121
      refine gl_ops 2 [(0, .pointer (some ⟨xb, 0, none⟩)), (1, .int .i64 4), (2, .string (bs nm)), (4, .int .i64 n), (12, .pointer (some ⟨b3, 0, none⟩)), (15, .bool true), (109, .bool false)] (by kernel_rfl) ?_
      refine gl_done rfl ?_
      refine sw_next ?_
      refine sw_false rfl rfl ?_
      refine sw_skip ?_
      refine bkN ?_
      refine sw_next ?_
      refine sw_seq ?_
      refine sw_region ?_  -- R26 ref.go:125
      refine gl_ops 2 [(0, .pointer (some ⟨xb, 0, none⟩)), (2, .string (bs nm)), (12, .pointer (some ⟨b3, 0, none⟩)), (15, .bool true), (124, .bool true)] (by kernel_rfl) ?_
      refine gl_done rfl ?_
      refine sw_next ?_
      refine sw_true rfl rfl ?_
      refine sw_region ?_  -- R27 ref.go:126
      refine gl_ops 2 [(15, .bool true), (125, .pointer (some ⟨xb, 0, none⟩)), (126, .string (bs nm))] (by kernel_rfl) ?_
      replace hH : Hp w w14 _ _ [.row (.slice Ar L.length cr) 89 3 L.length (rowC filC L), filRs L, .blk b3 89 [.string (bs nm), .slice Af b.length cf, .int .i64 ((sr : Nat) : Int)], .blk xb 87 [.slice Ar L.length cr, .bool D2.off, .int .i64 (actsI D2.ar), .int .i64 part]] := hH
      replace hH := hH.pick [3, 0, 1, 2] (by kernel_rfl) (os' := [.blk xb 87 [.slice Ar L.length cr, .bool D2.off, .int .i64 (actsI D2.ar), .int .i64 part], .row (.slice Ar L.length cr) 89 3 L.length (rowC filC L), filRs L, .blk b3 89 [.string (bs nm), .slice Af b.length cf, .int .i64 ((sr : Nat) : Int)]]) (by kernel_rfl)
      replace hH : Hp w w14 _ _ ([.blk xb 87 [.slice Ar L.length cr, .bool D2.off, .int .i64 (actsI D2.ar), .int .i64 part], .row (.slice Ar L.length cr) 89 3 L.length (rowC filC L)] ++ [filRs L, .blk b3 89 [.string (bs nm), .slice Af b.length cf, .int .i64 ((sr : Nat) : Int)]]) := hH
      refine gl_st (st_call rfl rfl rfl (by kernel_rfl) rfl (RUnset_ct xb _ L nm _ _ _ _ hH.mine hlt hV (by omega)) ?_)
      rintro _ w16 ⟨rv2, rfl, hF17⟩
      replace hH := hH.turns hF17; clear hF17
      replace hH : Hp w w16 _ _ [filRs L, .blk b3 89 [.string (bs nm), .slice Af b.length cf, .int .i64 ((sr : Nat) : Int)], .blk xb 87 [rv2, .bool D2.off, .int .i64 (actsI D2.ar), .int .i64 part], lstO rv2 (delL L nm)] := hH
      refine gl_done rfl ?_
      refine sw_next ?_
      refine sw_seq ?_
      refine sw_seq ?_
      refine sw_region ?_  -- R29 ref.go:131
      refine gl_ops 1 [(131, .bool true)] (by kernel_rfl) ?_
      refine gl_done rfl ?_
      refine sw_next ?_
      refine sw_true rfl rfl ?_
      refine sw_seq ?_
      refine sw_region ?_  -- R30 ref.go:132
      refine gl_ops 1 [(10, .int .i64 80)] (by kernel_rfl) ?_
      refine gl_done rfl ?_
      refine sw_next ?_
      refine sw_ret ?_
      refine thR ?_
      refine ret1 rfl rfl  ?_
      replace hH := rs_del nm hH
      replace hH : Hp w w16 _ _ [filRs (delL L nm), .blk b3 89 [.string (bs nm), .slice Af b.length cf, .int .i64 ((sr : Nat) : Int)], .blk xb 87 [rv2, .bool D2.off, .int .i64 (actsI D2.ar), .int .i64 part], lstO rv2 (delL L nm)] := hH
      replace hH := hH.pick [2, 3, 0, 1] (by kernel_rfl) (os' := [.blk xb 87 [rv2, .bool D2.off, .int .i64 (actsI D2.ar), .int .i64 part], lstO rv2 (delL L nm), filRs (delL L nm), .blk b3 89 [.string (bs nm), .slice Af b.length cf, .int .i64 ((sr : Nat) : Int)]]) (by kernel_rfl)
      replace hH := (hH.sublist (.cons_cons _ (.cons_cons _ (.cons_cons _ (List.nil_sublist _)))))
      replace hH : Hp w w16 _ _ [.blk xb 87 [rv2, .bool D2.off, .int .i64 (actsI D2.ar), .int .i64 part], lstO rv2 (delL L nm), filRs (delL L nm)] := hH
      exact rfin_do (kind := 4) (th := true) (L' := delL L nm) (rv' := rv2) (p) 80 (by simp) rfl hm0 (fun h => absurd h.1 (by decide)) hcut (.inr (.inr (by rw [hpt]; omega))) (by simp) (by rw [delL_fs hF hG.srt hlt]; unfold doF; rfl) ((hH.close (r := [])).turned)
    try simp only [decide_eq_false_iff_not, beq_eq_false_iff_ne, bne_eq_false_iff_eq, ne_eq, Decidable.not_not, Int.not_lt, Int.not_le, Bool.not_eq_false', beq_iff_eq, bne_iff_ne, decide_eq_true_eq] at hc6
    have hnrun : ¬ modI part 2 = 1 := by omega
    refine sw_skip ?_
    refine sw_next ?_
    refine sw_seq ?_
    refine sw_seq ?_
    refine sw_region ?_  -- R29 ref.go:131
    refine gl_ops 1 [(131, .bool true)] (by kernel_rfl) ?_
    refine gl_done rfl ?_
    refine sw_next ?_
    refine sw_true rfl rfl ?_
    refine sw_seq ?_
    refine sw_region ?_  -- R30 ref.go:132
    refine gl_ops 1 [(10, .int .i64 80)] (by kernel_rfl) ?_
    refine gl_done rfl ?_
    refine sw_next ?_
    refine sw_ret ?_
    refine thR ?_
    refine ret1 rfl rfl  ?_
    replace hH : Hp w w14 _ _ [.row (.slice Ar L.length cr) 89 3 L.length (rowC filC L), filRs L, .blk b3 89 [.string (bs nm), .slice Af b.length cf, .int .i64 ((sr : Nat) : Int)], .blk xb 87 [.slice Ar L.length cr, .bool D2.off, .int .i64 (actsI D2.ar), .int .i64 part]] := hH
    replace hH := hH.pick [3, 0, 1, 2] (by kernel_rfl) (os' := [.blk xb 87 [.slice Ar L.length cr, .bool D2.off, .int .i64 (actsI D2.ar), .int .i64 part], .row (.slice Ar L.length cr) 89 3 L.length (rowC filC L), filRs L, .blk b3 89 [.string (bs nm), .slice Af b.length cf, .int .i64 ((sr : Nat) : Int)]]) (by kernel_rfl)
    replace hH := (hH.sublist (.cons_cons _ (.cons_cons _ (.cons_cons _ (List.nil_sublist _)))))
    replace hH : Hp w w14 _ _ [.blk xb 87 [.slice Ar L.length cr, .bool D2.off, .int .i64 (actsI D2.ar), .int .i64 part], .row (.slice Ar L.length cr) 89 3 L.length (rowC filC L), filRs L] := hH
    exact rfin_not (kind := 4) (th := true) hF 80 (by simp) rfl hm0 (fun h => absurd h.1 (by decide)) hcut (by rw [hpt]; simp [hnrun]) ((hH.close (r := [])).turned)
  refine gl_cv 15 (.bool false) (by rw [hg4]) rfl ?_
  try simp only [decide_eq_false_iff_not, beq_eq_false_iff_ne, bne_eq_false_iff_eq, ne_eq, Decidable.not_not, Int.not_lt, Int.not_le, Bool.not_eq_false', beq_iff_eq, bne_iff_ne, decide_eq_true_eq] at hg4
  subst hg4
  refine gl_ops 3 [(0, .pointer (some ⟨xb, 0, none⟩)), (1, .int .i64 4), (2, .string (bs nm)), (3, .slice Ap p.length cp), (4, .int .i64 n), (12, .pointer (some ⟨b3, 0, none⟩)), (14, .int .i64 part), (15, .bool false), (65, .bool false)] (by kernel_rfl) ?_
  refine gl_done rfl ?_
  refine sw_next ?_
  refine sw_false rfl rfl ?_
  refine sw_skip ?_
  refine sw_next ?_
  refine sw_seq ?_
  refine sw_seq ?_
  refine sw_region ?_  -- R14 ref.go:112
  refine gl_ops 11 [(0, .pointer (some ⟨xb, 0, none⟩)), (1, .int .i64 4), (2, .string (bs nm)), (3, .slice Ap p.length cp), (4, .int .i64 n), (12, .pointer (some ⟨b3, 0, none⟩)), (15, .bool false), (83, .bool true)] (by kernel_rfl) ?_
  refine gl_done rfl ?_
  refine sw_next ?_
  refine sw_true rfl rfl ?_
  refine sw_seq ?_
  refine sw_seq ?_
  refine sw_region ?_  -- R15 ref.go:113
  refine gl_ops 1 [(0, .pointer (some ⟨xb, 0, none⟩)), (1, .int .i64 4), (2, .string (bs nm)), (3, .slice Ap p.length cp), (4, .int .i64 n), (12, .pointer (some ⟨b3, 0, none⟩)), (15, .bool false), (84, .int .i64 4)] (by kernel_rfl) ?_
  refine gl_done rfl ?_
  refine sw_next ?_
  refine sw_block ?_
  refine sw_seq ?_
  refine sw_region ?_  -- R16 ref.go:114
  refine gl_ops 2 [(0, .pointer (some ⟨xb, 0, none⟩)), (1, .int .i64 4), (2, .string (bs nm)), (3, .slice Ap p.length cp), (4, .int .i64 n), (12, .pointer (some ⟨b3, 0, none⟩)), (15, .bool false), (84, .int .i64 4), (85, .bool false)] (by kernel_rfl) ?_
  refine gl_done rfl ?_
  refine sw_next ?_
  refine sw_false rfl rfl ?_
  refine sw_seq ?_
  refine sw_region ?_  -- R18 ref.go:116
  refine gl_ops 2 [(0, .pointer (some ⟨xb, 0, none⟩)), (1, .int .i64 4), (2, .string (bs nm)), (3, .slice Ap p.length cp), (4, .int .i64 n), (12, .pointer (some ⟨b3, 0, none⟩)), (15, .bool false), (84, .int .i64 4), (94, .bool false)] (by kernel_rfl) ?_
  refine gl_done rfl ?_
  refine sw_next ?_
  refine sw_false rfl rfl ?_
  refine sw_seq ?_
  refine sw_region ?_  -- R20 ref.go:118
  refine gl_ops 2 [(0, .pointer (some ⟨xb, 0, none⟩)), (1, .int .i64 4), (2, .string (bs nm)), (3, .slice Ap p.length cp), (4, .int .i64 n), (12, .pointer (some ⟨b3, 0, none⟩)), (15, .bool false), (84, .int .i64 4), (100, .bool false)] (by kernel_rfl) ?_
  refine gl_done rfl ?_
  refine sw_next ?_
  refine sw_false rfl rfl ?_
  refine sw_seq ?_
  refine sw_region ?_  -- R23 ref.go:121
  refine gl_ops 2 [(0, .pointer (some ⟨xb, 0, none⟩)), (1, .int .i64 4), (2, .string (bs nm)), (4, .int .i64 n), (12, .pointer (some ⟨b3, 0, none⟩)), (15, .bool false), (109, .bool false)] (by kernel_rfl) ?_
  refine gl_done rfl ?_
  refine sw_next ?_
  refine sw_false rfl rfl ?_
  refine sw_skip ?_
  refine bkN ?_
  refine sw_next ?_
  refine sw_seq ?_
  refine sw_region ?_  -- R26 ref.go:125
  refine gl_ops 2 [(0, .pointer (some ⟨xb, 0, none⟩)), (2, .string (bs nm)), (12, .pointer (some ⟨b3, 0, none⟩)), (15, .bool false), (124, .bool true)] (by kernel_rfl) ?_
  refine gl_done rfl ?_
  refine sw_next ?_
  refine sw_true rfl rfl ?_
  refine sw_region ?_  -- R27 ref.go:126
  refine gl_ops 2 [(15, .bool false), (125, .pointer (some ⟨xb, 0, none⟩)), (126, .string (bs nm))] (by kernel_rfl) ?_
  replace hH : Hp w w12 _ _ [.row (.slice Ar L.length cr) 89 3 L.length (rowC filC L), filRs L, .blk b3 89 [.string (bs nm), .slice Af b.length cf, .int .i64 ((sr : Nat) : Int)], .blk xb 87 [.slice Ar L.length cr, .bool D2.off, .int .i64 (actsI D2.ar), .int .i64 part]] := hH
  replace hH := hH.pick [3, 0, 1, 2] (by kernel_rfl) (os' := [.blk xb 87 [.slice Ar L.length cr, .bool D2.off, .int .i64 (actsI D2.ar), .int .i64 part], .row (.slice Ar L.length cr) 89 3 L.length (rowC filC L), filRs L, .blk b3 89 [.string (bs nm), .slice Af b.length cf, .int .i64 ((sr : Nat) : Int)]]) (by kernel_rfl)
  replace hH : Hp w w12 _ _ ([.blk xb 87 [.slice Ar L.length cr, .bool D2.off, .int .i64 (actsI D2.ar), .int .i64 part], .row (.slice Ar L.length cr) 89 3 L.length (rowC filC L)] ++ [filRs L, .blk b3 89 [.string (bs nm), .slice Af b.length cf, .int .i64 ((sr : Nat) : Int)]]) := hH
  refine gl_st (st_call rfl rfl rfl (by kernel_rfl) rfl (RUnset_ct xb _ L nm _ _ _ _ hH.mine hlt hV (by omega)) ?_)
  rintro _ w18 ⟨rv2, rfl, hF19⟩
  replace hH := hH.turns hF19; clear hF19
  replace hH : Hp w w18 _ _ [filRs L, .blk b3 89 [.string (bs nm), .slice Af b.length cf, .int .i64 ((sr : Nat) : Int)], .blk xb 87 [rv2, .bool D2.off, .int .i64 (actsI D2.ar), .int .i64 part], lstO rv2 (delL L nm)] := hH
  refine gl_done rfl ?_
  refine sw_next ?_
  refine sw_seq ?_
  refine sw_seq ?_
  refine sw_region ?_  -- R29 ref.go:131
  refine gl_ops 1 [(131, .bool false)] (by kernel_rfl) ?_
  refine gl_done rfl ?_
  refine sw_next ?_
  refine sw_false rfl rfl ?_
  refine sw_skip ?_
  refine sw_next ?_
  refine sw_seq ?_
  refine sw_region ?_  -- R31 ref.go:134
  refine gl_ops 1 [(10, .int .i64 0)] (by kernel_rfl) ?_
  refine gl_done rfl ?_
  refine sw_next ?_
  refine sw_ret ?_
  refine ret1 rfl rfl  ?_
  replace hH := rs_del nm hH
  replace hH : Hp w w18 _ _ [filRs (delL L nm), .blk b3 89 [.string (bs nm), .slice Af b.length cf, .int .i64 ((sr : Nat) : Int)], .blk xb 87 [rv2, .bool D2.off, .int .i64 (actsI D2.ar), .int .i64 part], lstO rv2 (delL L nm)] := hH
  replace hH := hH.pick [2, 3, 0, 1] (by kernel_rfl) (os' := [.blk xb 87 [rv2, .bool D2.off, .int .i64 (actsI D2.ar), .int .i64 part], lstO rv2 (delL L nm), filRs (delL L nm), .blk b3 89 [.string (bs nm), .slice Af b.length cf, .int .i64 ((sr : Nat) : Int)]]) (by kernel_rfl)
  replace hH := (hH.sublist (.cons_cons _ (.cons_cons _ (.cons_cons _ (List.nil_sublist _)))))
  replace hH : Hp w w18 _ _ [.blk xb 87 [rv2, .bool D2.off, .int .i64 (actsI D2.ar), .int .i64 part], lstO rv2 (delL L nm), filRs (delL L nm)] := hH
  exact rfin_do (kind := 4) (th := true) (L' := delL L nm) (rv' := rv2) (p) 0 (by simp) rfl hm0 (fun h => absurd h.1 (by decide)) hcut (.inl rfl) (by simp) (by rw [delL_fs hF hG.srt hlt]; unfold doF; rfl) ((hH.close (r := [])).turned)
end Go.Proofs.YtjcchjgkkplamaaDoor
