/- Layer 18 (disk), the document's own: Start, Do: what they answer. -/
import Derived.Test.YtjcchjgkkplamaaGreatDoorRDisk1
set_option maxRecDepth 100000
set_option maxHeartbeats 4000000
set_option linter.unusedVariables false
set_option linter.unusedSimpArgs false
namespace Go.Proofs.YtjcchjgkkplamaaGreatDoor
open Go.RowKit Go.SW
theorem partF_get (F : List Fil) (ks : List Int) (i : Nat) : (partF F ks i)[i]? = F[i]? := by
  unfold partF
  rw [List.getElem?_mapIdx]
  cases F[i]? <;> simp
theorem partF_len (F : List Fil) (ks : List Int) (i : Nat) : (partF F ks i).length = F.length := by simp [partF]
theorem cut_f {A : Option Addr} {l c n m : Nat} (h : n ≤ l) (h2 : l ≤ c) : CutOf (.slice A l c) m 0 n c (.slice A n c) := by
  refine ⟨A, l, c, rfl, Nat.zero_le _, by omega, Nat.le_refl _, ?_⟩
  cases A with
  | none => simp
  | some a => simp [add_zero]
theorem rb_front {c : Zone} {A : Option Addr} {l cap n : Nat} {b : List UInt8} (h : RB c (.slice A l cap) b) (hn : n ≤ b.length) : RB c (.slice A n cap) (b.take n) := by
  obtain ⟨h0, A', cap', e, h1, h2, h3⟩ := h
  cases e
  have hl : (b.take n).length = n := by simp [Nat.min_eq_left hn]
  refine ⟨by simp [bv], A, cap, by rw [hl], by omega, h2, fun j u hu => h3 j u ?_⟩
  have hj : j < n := by have := (List.getElem?_eq_some_iff.1 hu).1; simpa [bv, Nat.min_eq_left hn] using this
  rw [← hu]
  simp [bv, List.getElem?_take, hj]
section
variable {w w0 : World} {z : Zone} {F : List Nat} {r : List Own}
theorem rs_set {L : FV} {i : Nat} {q : Fil × Value} (hi : i < L.length) (h : Hp w0 w z F (filR q :: filRs L :: r)) : Hp w0 w z F (filRs (L.set i q) :: r) := by
  have h1 : Hp w0 w z F ([filR q] ++ (filRs L :: r)) := h
  have h2 : Hp w0 w z F (filRs L :: (r ++ [filR q])) := h1.perm List.perm_append_comm
  have h3 := Hp.out (l := L.map filR) h2 i (o := filR L[i]) (by rw [List.getElem?_map, List.getElem?_eq_getElem hi]; rfl)
  have h4 : Hp w0 w z F ((.grp ((L.map filR).eraseIdx i) :: r) ++ [filR q]) := h3.sublist (List.sublist_cons_self _ _)
  have h5 := Hp.into (l := L.map filR) (i := i) (by simpa using hi) (h4.perm List.perm_append_comm)
  refine h5.cast ?_
  unfold filRs
  rw [List.map_set]
theorem rs_perm {L L' : FV} {q : Fil × Value} (hp : (q :: L).Perm L') (h : Hp w0 w z F (filR q :: filRs L :: r)) : Hp w0 w z F (filRs L' :: r) := by
  have h1 : Hp w0 w z F (filRs L :: (filR q :: r)) := h.perm (List.Perm.swap _ _ _)
  have h2 : Hp w0 w z F (L.map filR ++ (filR q :: r)) := h1.open_
  have h3 : Hp w0 w z F (L'.map filR ++ r) := h2.perm (List.perm_middle.trans (by
    have := (hp.map filR).append_right r
    simpa using this))
  exact h3.close
theorem rs_setL {L : FV} {q : Fil × Value} (h : Hp w0 w z F (filR q :: filRs L :: r)) : Hp w0 w z F (filRs (setL L q) :: r) := by
  unfold setL
  split
  · rename_i hlt; exact rs_set hlt h
  · refine rs_perm ?_ h
    rw [List.append_assoc]
    have h1 : (q :: L).Perm (q :: (L.take (insK L q.1.name) ++ L.drop (insK L q.1.name))) := by rw [List.take_append_drop]
    exact h1.trans List.perm_middle.symm
theorem rs_del {L : FV} (nm : List UInt8) (h : Hp w0 w z F (filRs L :: r)) : Hp w0 w z F (filRs (delL L nm) :: r) := by
  have h2 : Hp w0 w z F (L.map filR ++ r) := Hp.open_ h
  have h3 : Hp w0 w z F ((delL L nm).map filR ++ r) := h2.sublist (List.Sublist.append_right (by rw [delL_eq]; exact (List.eraseIdx_sublist _ _).map _) _)
  exact h3.close
theorem rs_same {L : FV} {g q : Fil × Value} (hlt : fndI L g.1.name < L.length) (hq : L[fndI L g.1.name]? = some q) (e : filR g = filR q) (h : Hp w0 w z F (filRs L :: r)) : Hp w0 w z F (filRs (setL L g) :: r) := by
  refine h.cast ?_
  unfold setL filRs
  rw [if_pos hlt, List.map_set, e]
  congr 2
  apply List.ext_getElem?
  intro j
  rw [List.getElem?_set]
  split
  · rename_i h; subst h
    rw [if_pos (by simpa using hlt), List.getElem?_map, hq]; rfl
  · rfl
end
theorem setL_sl {L : FV} {g : Fil × Value} (hV : SlQ L) (hg : ∃ A l c, g.2 = .slice A l c) : SlQ (setL L g) := by
  intro q hq
  unfold setL at hq
  split at hq
  · rcases List.mem_or_eq_of_mem_set hq with h | rfl
    · exact hV q h
    · exact hg
  · rcases List.mem_append.1 hq with h | h
    · rcases List.mem_append.1 h with h | h
      · exact hV q (List.mem_of_mem_take h)
      · simp only [List.mem_singleton] at h; subst h; exact hg
    · exact hV q (List.mem_of_mem_drop h)
theorem filRs_rb3 {w w0 : World} {z : Zone} {F : List Nat} {os : List Own} (hH : Hp w0 w z F os) (k : Nat) {L : FV} (hk : os[k]? = some (filRs L)) {i : Nat} {nm b : List UInt8} {sr : Nat} {v : Value} (hq : L[i]? = some (⟨nm, b, sr⟩, v)) : RB w.cell? v b := filRs_rb hH k hk hq
theorem rdk_find {D : Dsk} {L : FV} (hF : L.map (·.1) = D.fs) {nm : List UInt8} (hlt : fndI L nm < L.length) : ∃ b sr fv, L[fndI L nm]? = some (⟨nm, b, sr⟩, fv) ∧ oldF D.fs nm = ⟨nm, b, sr⟩ ∧ (⟨nm, b, sr⟩ : Fil) ∈ D.fs := by
  obtain ⟨⟨⟨fn, b, sr⟩, fv⟩, h1, h2⟩ := fnd_at hlt
  simp only at h2
  have h3 := h2.symm
  subst h3
  refine ⟨b, sr, fv, h1, ?_, by rw [← hF]; exact List.mem_map.2 ⟨_, List.mem_of_getElem? h1, rfl⟩⟩
  unfold oldF
  rw [← fnd_get hF, h1]; rfl
theorem rdk_no {D : Dsk} {L : FV} (hF : L.map (·.1) = D.fs) {nm : List UInt8} (hlt : ¬ fndI L nm < L.length) : oldF D.fs nm = ⟨nm, [], 0⟩ := by
  unfold oldF
  rw [← fnd_get hF, List.getElem?_eq_none (by omega)]; rfl
theorem rdk_lt {D : Dsk} {L : FV} (hF : L.map (·.1) = D.fs) {nm : List UInt8} (h : mayE D nm true = 0) : fndI L nm < L.length := by
  obtain ⟨_, _, _, _, h1, _⟩ := rdk_read hF h
  exact h1
abbrev ownR (xb : Nat) (rv : Value) (D : Dsk) (part : Int) (L : FV) : List Own := [.grp (rdkO xb rv D.off (actsI D.ar) part L)]
def RPost (xb : Nat) (rv : Value) (D : Dsk) (part : Int) (L : FV) (R : Dsk × Nat) (w : World) (v : Value) (w' : World) : Prop :=
  ∃ rv' L', v = .int .i64 ((R.2 : Nat) : Int) ∧ L'.map (·.1) = R.1.fs ∧ Turn w w' (ownR xb rv D part L) (ownR xb rv' R.1 part L')
section
variable {w w' : World} {xb : Nat} {rv rv' : Value} {D D2 : Dsk} {part : Int} {L L' : FV} {kind : Nat} {nm p : List UInt8} {n : Int} {th cu : Bool} {pt : Int}
theorem rfin_err (hF : L.map (·.1) = D.fs) (ht : decide (kind ≠ 0 ∧ kind ≠ 2) = th) (h : mayE D nm th ≠ 0) (hT : Turn w w' (ownR xb rv D part L) (ownR xb rv D part L)) : RPost xb rv D part L (doD D kind nm p n) w (.int .i64 ((mayE D nm th : Nat) : Int)) w' := by
  rw [doD_err ht h]
  exact ⟨rv, L, rfl, hF, hT⟩
theorem rfin_arg (hF : L.map (·.1) = D.fs) (h : mayE D nm true = 0) (h2 : n < 0 ∨ ((oldF D.fs nm).b.length : Int) < n) (hT : Turn w w' (ownR xb rv D part L) (ownR xb rv D part L)) : RPost xb rv D part L (doD D 3 nm p n) w (.int .i64 1) w' := by
  have e : doD D 3 nm p n = (D, 1) := by
    unfold doD
    rw [show decide ((3 : Nat) ≠ 0 ∧ (3 : Nat) ≠ 2) = true from rfl, if_neg (by rw [h]; simp), if_pos ⟨rfl, h2⟩]
  rw [e]
  exact ⟨rv, L, rfl, hF, hT⟩
theorem rfin_do (q : List UInt8) (e : Nat) (he : e = if cu = true then 80 else 0) (ht : decide (kind ≠ 0 ∧ kind ≠ 2) = th) (h : mayE D nm th = 0) (h2 : ¬ (kind = 3 ∧ (n < 0 ∨ ((oldF D.fs nm).b.length : Int) < n))) (hc : cutD D = (D2, cu, pt)) (hrun : cu = false ∨ kind = 0 ∨ modI pt 2 = 1) (hq : q = if cu = true ∧ kind = 0 then p.take (modI pt (p.length + 1)) else p)
    (hL : L'.map (·.1) = doF D.fs kind nm q n.toNat) (hT : Turn w w' (ownR xb rv D part L) [.grp (rdkO xb rv' D2.off (actsI D2.ar) part L')]) : RPost xb rv D part L (doD D kind nm p n) w (.int .i64 ((e : Nat) : Int)) w' := by
  rw [doD_ok ht h h2 hc]
  subst he
  refine ⟨rv', L', rfl, ?_, hT⟩
  show L'.map (·.1) = if cu = false ∨ kind = 0 ∨ modI pt 2 = 1 then doF D.fs kind nm (if cu = true ∧ kind = 0 then p.take (modI pt (p.length + 1)) else p) n.toNat else D.fs
  rw [if_pos hrun, ← hq, hL]
theorem rfin_not (hF : L.map (·.1) = D.fs) (e : Nat) (he : e = if cu = true then 80 else 0) (ht : decide (kind ≠ 0 ∧ kind ≠ 2) = th) (h : mayE D nm th = 0) (h2 : ¬ (kind = 3 ∧ (n < 0 ∨ ((oldF D.fs nm).b.length : Int) < n))) (hc : cutD D = (D2, cu, pt)) (hrun : ¬ (cu = false ∨ kind = 0 ∨ modI pt 2 = 1))
    (hT : Turn w w' (ownR xb rv D part L) [.grp (rdkO xb rv D2.off (actsI D2.ar) part L)]) : RPost xb rv D part L (doD D kind nm p n) w (.int .i64 ((e : Nat) : Int)) w' := by
  rw [doD_ok ht h h2 hc]
  subst he
  refine ⟨rv, L, rfl, ?_, hT⟩
  show L.map (·.1) = if cu = false ∨ kind = 0 ∨ modI pt 2 = 1 then doF D.fs kind nm (if cu = true ∧ kind = 0 then p.take (modI pt (p.length + 1)) else p) n.toNat else D.fs
  rw [if_neg hrun, hF]
end

theorem RStart_ct (xb : Nat) (rv : Value) (D : Dsk) (part : Int) (L : FV) (vk : Value) (ks : List Int) (M : Nat) (w : World) (hM : Mine w (ownR xb rv D part L)) (hF : L.map (·.1) = D.fs) (hk : Row (off w (blksOf (ownR xb rv D part L))) vk 1 ks.length (iv ks)) (hG : Good D.fs M) (hMM : M ≤ 140737488355328) :
    Fun Tryz.prog 16 [.pointer (some ⟨xb, 0, none⟩), vk] w fun v w' => ∃ L', v = .tuple #[] ∧ L'.map (·.1) = (startD D ks).fs ∧ Turn w w' (ownR xb rv D part L) (ownR xb rv (startD D ks) part L') := by
  obtain ⟨Ar, cr, rfl, hcr1, hcr2⟩ := (Row.of_own (hM.1 _ (List.mem_singleton.2 rfl) (lstO rv L) (by simp [rdkO]))).form
  have hcr3 := hcr2
  simp only [maxLen] at hcr3
  have hV : SlQ L := filRs_sl (hM.1 _ (List.mem_singleton.2 rfl) (filRs L) (by simp [rdkO]))
  obtain ⟨Ak, ck, rfl, hk1, hk2⟩ := hk.form
  refine fun_of_sw Tryz.func16 rfl 65 rfl rfl ?_
  have hH : Hp w w (off w (blksOf (ownR xb (.slice Ar L.length cr) D part L))) (blksOf (ownR xb (.slice Ar L.length cr) D part L)) (rdkO xb (.slice Ar L.length cr) D.off (actsI D.ar) part L ++ []) := (Hp.start_mine hM).open_
  replace hH : Hp w w _ _ [.blk xb 55 [.slice Ar L.length cr, .bool D.off, .int .i64 (actsI D.ar), .int .i64 part], .row (.slice Ar L.length cr) 93 3 L.length (rowC filC L), filRs L] := hH
  refine sw_seq ?_
  refine sw_sr ?_
  refine gl_ops 1 [(0, Pp xb 0), (1, .slice Ak ks.length ck), (4, .int .i64 0)] (by kernel_rfl) ?_
  refine gl_dn rfl ?_
  refine sw_block ?_
  replace hH := (hH.sublist (.cons_cons _ (.cons_cons _ (.cons_cons _ (List.nil_sublist _)))))
  replace hH : Hp w w _ _ [.blk xb 55 [.slice Ar L.length cr, .bool D.off, .int .i64 (actsI D.ar), .int .i64 part], .row (.slice Ar L.length cr) 93 3 L.length (rowC filC L), filRs L] := hH
  refine sw_loop (γ := Nat × FV) (fun (i, L2) => [(0, Pp xb 0), (1, .slice Ak ks.length ck), (4, Ni i)]) (fun (i, L2) w_ => (i ≤ L.length) ∧ (L2.map (·.1) = partF D.fs ks i) ∧ (L2.length = L.length) ∧ Hp w w_ (off w (blksOf (ownR xb (.slice Ar L.length cr) D part L))) (blksOf (ownR xb (.slice Ar L.length cr) D part L)) [.blk xb 55 [.slice Ar L.length cr, .bool D.off, .int .i64 (actsI D.ar), .int .i64 part], .row (.slice Ar L.length cr) 93 3 L.length (rowC filC L2), filRs L2]) (fun (i, L2) => L.length - i) (0, L) (Sub.of_eq (by kernel_rfl)) ?_ ?_
  · exact ⟨by omega, by rw [partF_zero]; exact hF, rfl, hH⟩
  clear hH
  rintro ⟨i, L2⟩ w1 ⟨hi, hL2, hlen2, hH⟩
  refine sw_keep [(0, Pp xb 0), (1, .slice Ak ks.length ck), (4, Ni i)] (by kernel_rfl) ?_
  refine sw_seq ?_
  refine sw_sr ?_
  refine gl_ops 4 [(0, Pp xb 0), (1, .slice Ak ks.length ck), (4, Ni i), (7, Ni i), (10, Pp xb 0)] (by kernel_rfl) ?_
  refine gl_q rfl rfl rfl (rd_loadK 0 (by kernel_rfl) hH rfl rfl rfl) ?_
  refine gl_q rfl rfl rfl (rd_len (e := 93) (by kernel_rfl) rfl) ?_
  refine gl_ops 1 [(0, Pp xb 0), (1, .slice Ak ks.length ck), (4, Ni i), (13, .bool (decide (((i : Nat) : Int) < ((L.length : Nat) : Int))))] (by kernel_rfl) ?_
  refine gl_dn rfl ?_
  refine sw_cond rfl rfl (fun hc1 => ?_) (fun hc1 => ?_)
  ·
    try simp only [decide_eq_true_eq] at hc1
    refine sw_skip ?_
    refine sw_next ?_
    refine sw_seq ?_
    refine sw_block ?_
    obtain ⟨⟨f, fv⟩, hq⟩ : ∃ q, L2[i]? = some q := ⟨_, List.getElem?_eq_getElem (by omega)⟩
    have hf : D.fs[i]? = some f := by rw [← partF_get D.fs ks i, ← hL2, List.getElem?_map, hq]; rfl
    obtain ⟨Af, cf, rfl, hf1, hf2⟩ := (filRs_rb hH 2 rfl hq).row.form
    have hbM := hG.short f (List.mem_of_getElem? hf)
    have hsr := hG.sure f (List.mem_of_getElem? hf)
    have hmod := modI_lt (ks.getD i 0) (show 0 < f.b.length - f.sure + 1 by omega)
    have hsl := startS_le hsr i ks
    refine sw_sr ?_
    refine gl_ops 3 [(0, Pp xb 0), (1, .slice Ak ks.length ck), (4, Ni i), (18, Pp xb 0)] (by kernel_rfl) ?_
    refine gl_q rfl rfl rfl (rd_loadK 0 (by kernel_rfl) hH rfl rfl rfl) ?_
    obtain ⟨b3, hb2, hi4⟩ := hH.row_idx 1 rfl i (by omega)
    refine gl_ops 1 [(0, Pp xb 0), (1, .slice Ak ks.length ck), (4, Ni i), (19, .slice Ar L.length cr), (20, Ni i)] (by kernel_rfl) ?_
    refine gl_q rfl rfl rfl (rd_idx (e := 93) (m := 3) (by kernel_rfl) (by kernel_rfl) rfl rfl hi4) ?_
    refine gl_q rfl rfl rfl (rd_loadOA (q := 3) 1 (by kernel_rfl) hH rfl rfl hb2 (by kernel_rfl) [.string (bs f.name), .slice Af f.b.length cf, Ni f.sure] rfl (rowC_allO filC_len hq _ rfl)) ?_
    refine gl_st (st_allocH rfl rfl rfl (cs := [.string (bs []), .slice none 0 0, .int .i64 0]) (by kernel_rfl) hH ?_)
    clear hH; intro b5 w6 hH
    refine gl_st (st_storeKA (vs := [.string (bs f.name), .slice Af f.b.length cf, Ni f.sure]) 3 rfl rfl rfl hH rfl rfl (by kernel_rfl) (by kernel_rfl) rfl (by simp) [.string (bs f.name), .slice Af f.b.length cf, Ni f.sure] rfl ?_)
    clear hH; intro w7 hH
    refine gl_dn rfl ?_
    refine sw_sr ?_
    refine gl_ops 1 [(0, Pp xb 0), (1, .slice Ak ks.length ck), (4, Ni i), (5, Pp b5 0), (6, .int .i64 0)] (by kernel_rfl) ?_
    refine gl_dn rfl ?_
    refine sw_cut (γ := Nat) (fun n1 => [(0, Pp xb 0), (1, .slice Ak ks.length ck), (4, Ni i), (5, Pp b5 0), (6, Ni n1)]) (fun n1 w_ => (f.sure + n1 = startS f i ks) ∧ Hp w w_ (off w (blksOf (ownR xb (.slice Ar L.length cr) D part L))) (blksOf (ownR xb (.slice Ar L.length cr) D part L)) [.blk xb 55 [.slice Ar L.length cr, .bool D.off, .int .i64 (actsI D.ar), .int .i64 part], .row (.slice Ar L.length cr) 93 3 L.length (rowC filC L2), filRs L2, .blk b5 93 [.string (bs f.name), .slice Af f.b.length cf, Ni f.sure]]) ?_ ?_
    ·
      refine sw_sr ?_
      refine gl_ops 2 [(0, Pp xb 0), (1, .slice Ak ks.length ck), (4, Ni i), (5, Pp b5 0), (6, .int .i64 0), (23, Ni i), (24, .slice Ak ks.length ck)] (by kernel_rfl) ?_
      refine gl_q rfl rfl rfl (rd_len (e := 3) (by kernel_rfl) rfl) ?_
      refine gl_ops 1 [(0, Pp xb 0), (1, .slice Ak ks.length ck), (4, Ni i), (5, Pp b5 0), (6, .int .i64 0), (26, .bool (decide (((i : Nat) : Int) < ((ks.length : Nat) : Int))))] (by kernel_rfl) ?_
      refine gl_dn rfl ?_
      refine sw_cond rfl rfl (fun hc2 => ?_) (fun hc2 => ?_)
      ·
        try simp only [decide_eq_true_eq] at hc2
        refine sw_draw (by kernel_rfl) (fun w_ => Hp w w_ (off w (blksOf (ownR xb (.slice Ar L.length cr) D part L))) (blksOf (ownR xb (.slice Ar L.length cr) D part L)) [.blk xb 55 [.slice Ar L.length cr, .bool D.off, .int .i64 (actsI D.ar), .int .i64 part], .row (.slice Ar L.length cr) 93 3 L.length (rowC filC L2), filRs L2, .blk b5 93 [.string (bs f.name), .slice Af f.b.length cf, Ni f.sure]]) ?_
        replace hH := hH.drew
        generalize { w7 with drawn := w7.drawn + 1 } = w8 at hH ⊢
        have hS9 := hH.sublist (.cons_cons _ (.cons_cons _ (.cons_cons _ (.cons_cons _ (List.nil_sublist _)))))
        refine gd_pure 0 rfl (by kernel_rfl) (PQ.th (PQ.bk (PQ.th (PQ.th (PQ.bk (PQ.th PQ.body)))))) hS9 rfl rfl (.slice Ak ks.length ck) (by kernel_rfl) ?_
        refine gd_pure 1 rfl (by kernel_rfl) (PQ.th (PQ.bk (PQ.th (PQ.th (PQ.bk (PQ.th PQ.body)))))) hS9 rfl rfl (Ni i) (by kernel_rfl) ?_
        obtain ⟨p9, hi11, hp10⟩ := hk.idx i (by omega) (by decide)
        refine gd_q 2 rfl (by kernel_rfl) (PQ.th (PQ.bk (PQ.th (PQ.th (PQ.bk (PQ.th PQ.body)))))) hS9 rfl rfl (fun w_ hS => (rd_idx (e := 3) (m := 1) (by kernel_rfl) (by kernel_rfl) rfl rfl hi11)) ?_
        refine gd_keep [(0, Pp xb 0), (1, .slice Ak ks.length ck), (4, Ni i), (5, Pp b5 0), (6, .int .i64 0), (29, .pointer (some p9))] (by kernel_rfl) ?_
        refine gd_q 3 rfl (by kernel_rfl) (PQ.th (PQ.bk (PQ.th (PQ.th (PQ.bk (PQ.th PQ.body)))))) hS9 rfl rfl (fun w_ hS => (rd_load (by kernel_rfl) rfl (hS.zin _ _ (hp10 0 _ (by decide) (iv_at ks i (by omega)))))) ?_
        refine gd_pure 4 rfl (by kernel_rfl) (PQ.th (PQ.bk (PQ.th (PQ.th (PQ.bk (PQ.th PQ.body)))))) hS9 rfl rfl (Pp b5 1) (by kernel_rfl) ?_
        refine gd_q 5 rfl (by kernel_rfl) (PQ.th (PQ.bk (PQ.th (PQ.th (PQ.bk (PQ.th PQ.body)))))) hS9 rfl rfl (fun w_ hS => (rd_loadK 3 (by kernel_rfl) hS rfl rfl rfl)) ?_
        refine gd_keep [(0, Pp xb 0), (1, .slice Ak ks.length ck), (4, Ni i), (5, Pp b5 0), (6, .int .i64 0), (30, .int .i64 (ks.getD i 0)), (32, .slice Af f.b.length cf)] (by kernel_rfl) ?_
        refine gd_q 6 rfl (by kernel_rfl) (PQ.th (PQ.bk (PQ.th (PQ.th (PQ.bk (PQ.th PQ.body)))))) hS9 rfl rfl (fun w_ hS => (rd_len (e := 5) (by kernel_rfl) rfl)) ?_
        refine gd_pure 7 rfl (by kernel_rfl) (PQ.th (PQ.bk (PQ.th (PQ.th (PQ.bk (PQ.th PQ.body)))))) hS9 rfl rfl (Pp b5 2) (by kernel_rfl) ?_
        refine gd_q 8 rfl (by kernel_rfl) (PQ.th (PQ.bk (PQ.th (PQ.th (PQ.bk (PQ.th PQ.body)))))) hS9 rfl rfl (fun w_ hS => (rd_loadK 3 (by kernel_rfl) hS rfl rfl rfl)) ?_
        refine gd_keep [(0, Pp xb 0), (1, .slice Ak ks.length ck), (4, Ni i), (5, Pp b5 0), (6, .int .i64 0), (30, .int .i64 (ks.getD i 0)), (33, Ni f.b.length), (35, Ni f.sure)] (by kernel_rfl) ?_
        refine gd_pure 9 rfl (by kernel_rfl) (PQ.th (PQ.bk (PQ.th (PQ.th (PQ.bk (PQ.th PQ.body)))))) hS9 rfl rfl (.int .i64 (IntKind.i64.wrap (((f.b.length : Nat) : Int) - ((f.sure : Nat) : Int)))) (by kernel_rfl) ?_
        refine gd_cv 36 (Ni (f.b.length - f.sure)) (cv_i64 (by omega)) rfl ?_
        refine gd_pure 10 rfl (by kernel_rfl) (PQ.th (PQ.bk (PQ.th (PQ.th (PQ.bk (PQ.th PQ.body)))))) hS9 rfl rfl (.int .i64 (IntKind.i64.wrap (((f.b.length - f.sure : Nat) : Int) + 1))) (by kernel_rfl) ?_
        refine gd_cv 37 (Ni ((f.b.length - f.sure) + 1)) (cv_i64 (by omega)) rfl ?_
        refine gd_st 11 (by kernel_rfl) (st_call rfl rfl rfl (by kernel_rfl) rfl (RMod_ct (ks.getD i 0) ((f.b.length - f.sure) + 1) _ (by omega) (by omega)) ?_)
        rintro _ w12 ⟨rfl, hF13⟩
        replace hH := hH.call hF13; clear hF13
        replace hS9 := hH.sublist (.cons_cons _ (.cons_cons _ (.cons_cons _ (.cons_cons _ (List.nil_sublist _)))))
        refine ⟨hS9, ?_⟩
        refine gd_keep [(0, Pp xb 0), (1, .slice Ak ks.length ck), (4, Ni i), (5, Pp b5 0), (6, .int .i64 0), (38, Ni (modI (ks.getD i 0) ((f.b.length - f.sure) + 1)))] (by kernel_rfl) ?_
        refine gd_pure 12 rfl (by kernel_rfl) (PQ.th (PQ.bk (PQ.th (PQ.th (PQ.bk (PQ.th PQ.body)))))) hS9 rfl rfl (Ni (modI (ks.getD i 0) ((f.b.length - f.sure) + 1))) (by kernel_rfl) ?_
        refine gd_done (by kernel_rfl) ?_
        refine at_sub [(0, Pp xb 0), (1, .slice Ak ks.length ck), (4, Ni i), (5, Pp b5 0), (6, Ni (modI (ks.getD i 0) ((f.b.length - f.sure) + 1)))] (Sub.of_eq (by kernel_rfl)) ?_
        refine cut_end (modI (ks.getD i 0) ((f.b.length - f.sure) + 1)) (Sub.of_eq (by kernel_rfl)) ?_
        exact ⟨by unfold startS; rw [if_pos (by omega)], hH⟩
      try simp only [decide_eq_false_iff_not, Int.not_lt, Int.not_le] at hc2
      refine sw_skip ?_
      refine cut_end (0) (Sub.of_eq (by kernel_rfl)) ?_
      exact ⟨by unfold startS; rw [if_neg (by omega)], hH⟩
    clear hH
    rintro n1 w14 ⟨hn1, hH⟩
    have hn2 : f.sure + n1 ≤ f.b.length := by omega
    refine sw_keep [(0, Pp xb 0), (1, .slice Ak ks.length ck), (4, Ni i), (5, Pp b5 0), (6, Ni n1)] (by kernel_rfl) ?_
    refine sw_sr ?_
    refine gl_ops 1 [(0, Pp xb 0), (1, .slice Ak ks.length ck), (4, Ni i), (5, Pp b5 0), (6, Ni n1), (39, Pp b5 2)] (by kernel_rfl) ?_
    refine gl_q rfl rfl rfl (rd_loadK 3 (by kernel_rfl) hH rfl rfl rfl) ?_
    refine gl_ops 2 [(0, Pp xb 0), (1, .slice Ak ks.length ck), (4, Ni i), (5, Pp b5 0), (42, .int .i64 (IntKind.i64.wrap (((f.sure : Nat) : Int) + ((n1 : Nat) : Int))))] (by kernel_rfl) ?_
    refine gl_cv 42 (Ni (f.sure + n1)) (cv_i64 (by omega)) rfl ?_
    refine gl_ops 1 [(0, Pp xb 0), (1, .slice Ak ks.length ck), (4, Ni i), (5, Pp b5 0), (42, Ni (f.sure + n1)), (43, Pp b5 2)] (by kernel_rfl) ?_
    refine gl_st (st_storeK (v := Ni (f.sure + n1)) 3 rfl rfl rfl hH rfl rfl rfl (by kernel_rfl) rfl (by simp) ?_)
    clear hH; intro w15 hH
    refine gl_dn rfl ?_
    refine sw_sr ?_
    refine gl_st (st_buildS0 (e := 5) (m := 1) rfl rfl rfl (by kernel_rfl) (by kernel_rfl) hH ?_)
    clear hH; intro b16 w17 hH
    refine gl_ops 1 [(0, Pp xb 0), (1, .slice Ak ks.length ck), (4, Ni i), (5, Pp b5 0), (44, .slice (some ⟨b16, 0, none⟩) 0 0), (45, Pp b5 1)] (by kernel_rfl) ?_
    refine gl_q rfl rfl rfl (rd_loadK 3 (by kernel_rfl) hH rfl rfl rfl) ?_
    refine gl_ops 1 [(0, Pp xb 0), (1, .slice Ak ks.length ck), (4, Ni i), (5, Pp b5 0), (44, .slice (some ⟨b16, 0, none⟩) 0 0), (46, .slice Af f.b.length cf), (47, Pp b5 2)] (by kernel_rfl) ?_
    refine gl_q rfl rfl rfl (rd_loadK 3 (by kernel_rfl) hH rfl rfl rfl) ?_
    refine gl_q rfl rfl rfl (rd_cut (e := 5) (m := 1) (by kernel_rfl) (by kernel_rfl) rfl (.inl ⟨rfl, rfl⟩) (.inr ⟨_, _, rfl, rfl⟩) (cut_f (show f.sure + n1 ≤ f.b.length by omega) (by omega))) ?_
    refine gl_st (st_appH (e := 5) (zv := .int .u8 0) (m := 1) (bytes := 1) 4 rfl rfl rfl (by kernel_rfl) (by kernel_rfl) rfl (by decide) hH rfl rfl rfl (rb_front (filRs_rb hH 2 rfl hq) (show f.sure + n1 ≤ f.b.length by omega)).row (bv_one _) (by rw [List.length_take]; unfold maxLen; omega) (by rw [List.length_take]; omega) ?_)
    clear hH; intro v18 w19 hH
    replace hH := hH.row_eq 4 (l' := (f.b.take (f.sure + n1)).length) (xs' := bv (f.b.take (f.sure + n1))) rfl (Nat.zero_add _) (List.nil_append _)
    obtain ⟨A20, c21, rfl, hl22, hm23⟩ := hH.row_form 4 rfl
    refine gl_ops 1 [(0, Pp xb 0), (1, .slice Ak ks.length ck), (4, Ni i), (5, Pp b5 0), (50, .slice A20 ((f.b.take (f.sure + n1)).length) c21), (51, Pp b5 1)] (by kernel_rfl) ?_
    refine gl_st (st_storeK (v := .slice A20 ((f.b.take (f.sure + n1)).length) c21) 3 rfl rfl rfl hH rfl rfl rfl (by kernel_rfl) rfl (by simp) ?_)
    clear hH; intro w24 hH
    refine gl_dn rfl ?_
    refine sw_draw (by kernel_rfl) (fun w_ => Hp w w_ (off w (blksOf (ownR xb (.slice Ar L.length cr) D part L))) (blksOf (ownR xb (.slice Ar L.length cr) D part L)) [.blk xb 55 [.slice Ar L.length cr, .bool D.off, .int .i64 (actsI D.ar), .int .i64 part], filRs L2, .blk b5 93 [.string (bs f.name), .slice A20 ((f.b.take (f.sure + n1)).length) c21, Ni (f.sure + n1)], .row (.slice A20 ((f.b.take (f.sure + n1)).length) c21) 5 1 ((f.b.take (f.sure + n1)).length) (bv (f.b.take (f.sure + n1)))]) ?_
    replace hH := hH.drew
    generalize { w24 with drawn := w24.drawn + 1 } = w25 at hH ⊢
    have hS9 := hH.sublist (.cons_cons _ (.cons _ (.cons_cons _ (.cons_cons _ (.cons_cons _ (List.nil_sublist _))))))
    refine gd_pure 0 rfl (by kernel_rfl) (PQ.bk (PQ.th (PQ.th (PQ.bk (PQ.th PQ.body))))) hS9 rfl rfl (Pp xb 0) (by kernel_rfl) ?_
    refine gd_pure 1 rfl (by kernel_rfl) (PQ.bk (PQ.th (PQ.th (PQ.bk (PQ.th PQ.body))))) hS9 rfl rfl (Pp xb 0) (by kernel_rfl) ?_
    refine gd_pure 2 rfl (by kernel_rfl) (PQ.bk (PQ.th (PQ.th (PQ.bk (PQ.th PQ.body))))) hS9 rfl rfl (Pp xb 0) (by kernel_rfl) ?_
    refine gd_keep [(0, Pp xb 0), (1, .slice Ak ks.length ck), (4, Ni i), (5, Pp b5 0), (54, Pp xb 0)] (by kernel_rfl) ?_
    refine gd_q 3 rfl (by kernel_rfl) (PQ.bk (PQ.th (PQ.th (PQ.bk (PQ.th PQ.body))))) hS9 rfl rfl (fun w_ hS => (rd_loadK 0 (by kernel_rfl) hS rfl rfl rfl)) ?_
    refine gd_pure 4 rfl (by kernel_rfl) (PQ.bk (PQ.th (PQ.th (PQ.bk (PQ.th PQ.body))))) hS9 rfl rfl (Ni i) (by kernel_rfl) ?_
    refine gd_q 5 rfl (by kernel_rfl) (PQ.bk (PQ.th (PQ.th (PQ.bk (PQ.th PQ.body))))) hS9 rfl rfl (fun w_ hS => (rd_loadKA (m := 3) 2 (by kernel_rfl) hS rfl rfl (by kernel_rfl) [.string (bs f.name), .slice A20 ((f.b.take (f.sure + n1)).length) c21, Ni (f.sure + n1)] rfl rfl)) ?_
    refine gd_keep [(0, Pp xb 0), (1, .slice Ak ks.length ck), (4, Ni i), (55, .slice Ar L.length cr), (56, Ni i), (57, .agg #[.string (bs f.name), .slice A20 ((f.b.take (f.sure + n1)).length) c21, Ni (f.sure + n1)])] (by kernel_rfl) ?_
    obtain ⟨b27, hb26, hi28⟩ := hH.row_idx 1 rfl i (by omega)
    refine gd_q 6 rfl (by kernel_rfl) (PQ.bk (PQ.th (PQ.th (PQ.bk (PQ.th PQ.body))))) hS9 rfl rfl (fun w_ hS => (rd_idx (e := 93) (m := 3) (by kernel_rfl) (by kernel_rfl) rfl rfl hi28)) ?_
    refine gd_st 7 (by kernel_rfl) (st_storeOA (vs := [.string (bs f.name), .slice A20 ((f.b.take (f.sure + n1)).length) c21, Ni (f.sure + n1)]) 1 rfl rfl rfl hH rfl rfl rfl (by kernel_rfl) rfl hb26 (by rw [rowC_len filC_len]; show i * 3 + 3 ≤ _; omega) ?_)
    clear hH; intro w29 hH
    replace hH := hH.row_eq 1 (l' := L.length) (xs' := rowC filC (L2.set i (⟨f.name, f.b.take (f.sure + n1), f.sure + n1⟩, Value.slice A20 ((f.b.take (f.sure + n1)).length) c21))) rfl (rfl) (rowC_set filC_len (x := (⟨f.name, f.b.take (f.sure + n1), f.sure + n1⟩, Value.slice A20 ((f.b.take (f.sure + n1)).length) c21)) (by omega))
    replace hS9 := hH.sublist (.cons_cons _ (.cons _ (.cons_cons _ (.cons_cons _ (.cons_cons _ (List.nil_sublist _))))))
    refine ⟨hS9, ?_⟩
    refine gd_keep [(0, Pp xb 0), (1, .slice Ak ks.length ck), (4, Ni i)] (by kernel_rfl) ?_
    refine gd_done (by kernel_rfl) ?_
    refine at_sub [(0, Pp xb 0), (1, .slice Ak ks.length ck), (4, Ni i)] (Sub.of_eq (by kernel_rfl)) ?_
    refine bkN ?_
    refine sw_next ?_
    refine sw_region ?_
    refine gl_ops 2 [(0, Pp xb 0), (1, .slice Ak ks.length ck), (15, .int .i64 (IntKind.i64.wrap (((i : Nat) : Int) + 1)))] (by kernel_rfl) ?_
    refine gl_cv 15 (Ni (i + 1)) (cv_i64 (by omega)) rfl ?_
    refine gl_ops 1 [(0, Pp xb 0), (1, .slice Ak ks.length ck), (4, Ni (i + 1))] (by kernel_rfl) ?_
    refine gl_done rfl ?_
    refine rnd_end (g := (i, L2)) (i + 1, L2.set i (⟨f.name, f.b.take (f.sure + n1), f.sure + n1⟩, (Value.slice A20 ((f.b.take (f.sure + n1)).length) c21))) (by kernel_rfl) ?_ ?_
    replace hH := hH.pick [4, 2, 0, 1, 3] (by kernel_rfl) (os' := [.row (.slice A20 ((f.b.take (f.sure + n1)).length) c21) 5 1 ((f.b.take (f.sure + n1)).length) (bv (f.b.take (f.sure + n1))), filRs L2, .blk xb 55 [.slice Ar L.length cr, .bool D.off, .int .i64 (actsI D.ar), .int .i64 part], .row (.slice Ar L.length cr) 93 3 L.length (rowC filC (L2.set i (⟨f.name, f.b.take (f.sure + n1), f.sure + n1⟩, Value.slice A20 ((f.b.take (f.sure + n1)).length) c21))), .blk b5 93 [.string (bs f.name), .slice A20 ((f.b.take (f.sure + n1)).length) c21, Ni (f.sure + n1)]]) (by kernel_rfl)
    replace hH : Hp w w29 _ _ (filR (⟨f.name, f.b.take (f.sure + n1), f.sure + n1⟩, (Value.slice A20 ((f.b.take (f.sure + n1)).length) c21)) :: filRs L2 :: [.blk xb 55 [.slice Ar L.length cr, .bool D.off, .int .i64 (actsI D.ar), .int .i64 part], .row (.slice Ar L.length cr) 93 3 L.length (rowC filC (L2.set i (⟨f.name, f.b.take (f.sure + n1), f.sure + n1⟩, Value.slice A20 ((f.b.take (f.sure + n1)).length) c21))), .blk b5 93 [.string (bs f.name), .slice A20 ((f.b.take (f.sure + n1)).length) c21, Ni (f.sure + n1)]]) := hH
    replace hH := rs_set (i := i) (by omega) hH
    replace hH := hH.pick [1, 2, 0, 3] (by kernel_rfl) (os' := [.blk xb 55 [.slice Ar L.length cr, .bool D.off, .int .i64 (actsI D.ar), .int .i64 part], .row (.slice Ar L.length cr) 93 3 L.length (rowC filC (L2.set i (⟨f.name, f.b.take (f.sure + n1), f.sure + n1⟩, Value.slice A20 ((f.b.take (f.sure + n1)).length) c21))), filRs (L2.set i (⟨f.name, f.b.take (f.sure + n1), f.sure + n1⟩, (Value.slice A20 ((f.b.take (f.sure + n1)).length) c21))), .blk b5 93 [.string (bs f.name), .slice A20 ((f.b.take (f.sure + n1)).length) c21, Ni (f.sure + n1)]]) (by kernel_rfl)
    replace hH := (hH.sublist (.cons_cons _ (.cons_cons _ (.cons_cons _ (List.nil_sublist _)))))
    replace hH : Hp w w29 _ _ [.blk xb 55 [.slice Ar L.length cr, .bool D.off, .int .i64 (actsI D.ar), .int .i64 part], .row (.slice Ar L.length cr) 93 3 L.length (rowC filC (L2.set i (⟨f.name, f.b.take (f.sure + n1), f.sure + n1⟩, Value.slice A20 ((f.b.take (f.sure + n1)).length) c21))), filRs (L2.set i (⟨f.name, f.b.take (f.sure + n1), f.sure + n1⟩, (Value.slice A20 ((f.b.take (f.sure + n1)).length) c21)))] := hH
    · exact ⟨by omega, by rw [List.map_set, hL2, ← partF_next hf]; congr 1; unfold startF1; rw [← hn1], by rw [List.length_set]; exact hlen2, hH⟩
    · show L.length - (i + 1) < L.length - i; omega
  try simp only [decide_eq_false_iff_not, Int.not_lt, Int.not_le] at hc1
  refine sw_exit ?_
  refine thX ?_
  refine thX ?_
  refine bkH ?_
  refine sw_next ?_
  refine sw_sr ?_
  refine gl_ops 3 [(0, Pp xb 0), (61, Pp xb 1)] (by kernel_rfl) ?_
  refine gl_st (st_storeK (v := .bool false) 0 rfl rfl rfl hH rfl rfl rfl (by kernel_rfl) rfl (by simp) ?_)
  clear hH; intro w30 hH
  refine gl_dn rfl ?_
  refine sw_region ?_
  refine gl_ops 3 [(64, Pp xb 2)] (by kernel_rfl) ?_
  refine gl_st (st_storeK (v := .int .i64 (-1)) 0 rfl rfl rfl hH rfl rfl rfl (by kernel_rfl) rfl (by simp) ?_)
  clear hH; intro w31 hH
  refine gl_done rfl ?_
  refine end0 rfl ?_
  replace hH := (hH.sublist (.cons_cons _ (.cons_cons _ (.cons_cons _ (List.nil_sublist _)))))
  replace hH : Hp w w31 _ _ [.blk xb 55 [.slice Ar L.length cr, .bool false, .int .i64 (-1), .int .i64 part], .row (.slice Ar L.length cr) 93 3 L.length (rowC filC L2), filRs L2] := hH
  have h4 : Hp w w31 _ _ (rdkO xb (.slice Ar L.length cr) (startD D ks).off (actsI (startD D ks).ar) part L2 ++ []) := hH.cast (by unfold rdkO lstO rhdO; rw [hlen2]; rfl)
  exact ⟨L2, rfl, by rw [hL2]; exact partF_all (by have := congrArg List.length hF; simp at this; omega), h4.close.turned⟩
end Go.Proofs.YtjcchjgkkplamaaGreatDoor
