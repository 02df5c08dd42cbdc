/- Layer 18 (disk), the document's own: set, unset, Arm, Read: what they answer. -/
import Derived.Test.YtjcchjgkkplamaaGreatDoorRDisk
set_option maxRecDepth 100000
set_option maxHeartbeats 2000000
set_option linter.unusedVariables false
set_option linter.unusedSimpArgs false
namespace Go.Proofs.YtjcchjgkkplamaaGreatDoor
open Go.RowKit Go.SW
def insK (L : FV) (nm : List UInt8) : Nat := L.findIdx fun q => !decide (q.1.name < nm)
def setL (L : FV) (g : Fil × Value) : FV := if fndI L g.1.name < L.length then L.set (fndI L g.1.name) g else L.take (insK L g.1.name) ++ [g] ++ L.drop (insK L g.1.name)
def delL (L : FV) (nm : List UInt8) : FV := L.take (fndI L nm) ++ L.drop (fndI L nm + 1)
theorem insK_is {L : FV} {nm : List UInt8} {k : Nat} (hk : k ≤ L.length) (hb : ∀ j : Nat, j < k → ∀ r, L[j]? = some r → r.1.name < nm) (he : k = L.length ∨ ∃ q, L[k]? = some q ∧ ¬ q.1.name < nm) : insK L nm = k := by
  unfold insK
  rcases he with he | ⟨q, hq, hn⟩
  · subst he
    refine List.findIdx_eq_length.2 fun q hq => ?_
    obtain ⟨j, hj⟩ := List.getElem?_of_mem hq
    have := hb j (List.getElem?_eq_some_iff.1 hj).1 q hj
    simpa using this
  · have hil := (List.getElem?_eq_some_iff.1 hq).1
    refine (List.findIdx_eq hil).2 ⟨by rw [(List.getElem?_eq_some_iff.1 hq).2]; simpa using hn, fun j hj => ?_⟩
    have := hb j hj L[j] (List.getElem?_eq_getElem (by omega))
    simpa using this
theorem insK_le (L : FV) (nm : List UInt8) : insK L nm ≤ L.length := List.findIdx_le_length
theorem insK_lt {L : FV} {nm : List UInt8} {j : Nat} {r : Fil × Value} (h : j < insK L nm) (hr : L[j]? = some r) : r.1.name < nm := by
  have h1 := List.not_of_lt_findIdx h
  rw [(List.getElem?_eq_some_iff.1 hr).2] at h1
  simpa using h1
theorem insK_at {L : FV} {nm : List UInt8} {r : Fil × Value} (hr : L[insK L nm]? = some r) : ¬ r.1.name < nm := by
  have h2 : (!decide ((L[insK L nm]'(List.getElem?_eq_some_iff.1 hr).1).1.name < nm)) = true := List.findIdx_getElem (xs := L) (p := fun q : Fil × Value => !decide (q.1.name < nm)) (w := (List.getElem?_eq_some_iff.1 hr).1)
  rw [(List.getElem?_eq_some_iff.1 hr).2] at h2
  simpa using h2
theorem srt_names {F G : List Fil} (h : Srt F) (e : F.map (·.name) = G.map (·.name)) : Srt G := by
  unfold Srt at h ⊢
  rw [← List.pairwise_map (f := fun f : Fil => f.name) (R := fun a b => a < b)] at h ⊢
  rw [← e]; exact h
theorem setL_fs {L : FV} {F : List Fil} (hF : L.map (·.1) = F) (hS : Srt F) (g : Fil × Value) : (setL L g).map (·.1) = setF F g.1 := by
  subst hF
  unfold setL
  split
  · rename_i hlt
    obtain ⟨q, h1, h2⟩ := fnd_at hlt
    rw [List.map_set]
    have hq : (L.map (·.1))[fndI L g.1.name]? = some q.1 := by rw [List.getElem?_map, h1]; rfl
    refine (setF_at hS hq h2.symm (srt_names hS ?_)).symm
    rw [List.map_set, ← h2]
    apply List.ext_getElem?
    intro j
    rw [List.getElem?_set]
    split
    · rename_i e
      subst e
      have := (List.getElem?_eq_some_iff.1 hq).1
      rw [if_pos (by rw [h2]; simpa using this), List.getElem?_map, h2, hq]; simp [h2]
    · rfl
  · rename_i hlt
    have hne := fnd_none hlt
    have hsrt : Srt ((L.take (insK L g.1.name) ++ [g] ++ L.drop (insK L g.1.name)).map (·.1)) := by
      have hS2 : Srt ((L.take (insK L g.1.name)).map (·.1) ++ (L.drop (insK L g.1.name)).map (·.1)) := by rw [← List.map_append, List.take_append_drop]; exact hS
      obtain ⟨s1, s2, s3⟩ := List.pairwise_append.1 hS2
      have hd : ∀ r ∈ L.drop (insK L g.1.name), g.1.name < r.1.name := by
        intro r hr
        obtain ⟨j, hj⟩ := List.getElem?_of_mem hr
        rw [List.getElem?_drop] at hj
        have hr2 := List.mem_of_getElem? hj
        have hkl : insK L g.1.name < L.length := by have := (List.getElem?_eq_some_iff.1 hj).1; omega
        obtain ⟨r0, h0⟩ : ∃ r0, L[insK L g.1.name]? = some r0 := ⟨_, List.getElem?_eq_getElem hkl⟩
        have hn0 := insK_at h0
        have hlt0 : g.1.name < r0.1.name := by
          rcases bl_tri g.1.name r0.1.name with h | h | h
          · exact h
          · exact absurd h.symm (hne r0 (List.mem_of_getElem? h0))
          · exact absurd h hn0
        by_cases hj0 : j = 0
        · subst hj0; rw [Nat.add_zero, h0] at hj; cases hj; exact hlt0
        · have := List.pairwise_iff_getElem.1 hS (insK L g.1.name) (insK L g.1.name + j) (by simpa using hkl) (by simpa using (List.getElem?_eq_some_iff.1 hj).1) (by omega)
          simp only [List.getElem_map] at this
          rw [(List.getElem?_eq_some_iff.1 h0).2, (List.getElem?_eq_some_iff.1 hj).2] at this
          exact bl_trans hlt0 this
      have ht : ∀ r ∈ L.take (insK L g.1.name), r.1.name < g.1.name := by
        intro r hr
        obtain ⟨j, hj⟩ := List.getElem?_of_mem hr
        rw [List.getElem?_take] at hj
        split at hj
        · rename_i h; exact insK_lt h hj
        · cases hj
      rw [List.append_assoc, List.map_append, List.map_append]
      refine List.pairwise_append.2 ⟨s1, List.pairwise_cons.2 ⟨fun f hf => ?_, s2⟩, fun a ha b hb => ?_⟩
      · obtain ⟨r, hr, rfl⟩ := List.mem_map.1 hf
        exact hd r hr
      · obtain ⟨r, hr, rfl⟩ := List.mem_map.1 ha
        rcases List.mem_cons.1 hb with rfl | hb
        · exact ht r hr
        · exact s3 _ ha _ hb
    refine srt_eq hsrt (srt_set hS g.1) (perm_of_mem (srt_nodup hsrt) (srt_nodup (srt_set hS g.1)) fun f => ?_)
    rw [mem_set, List.map_append, List.map_append, List.append_assoc, List.mem_append, List.mem_append]
    have hall : f ∈ L.map (·.1) ↔ f ∈ (L.take (insK L g.1.name)).map (·.1) ∨ f ∈ (L.drop (insK L g.1.name)).map (·.1) := by rw [← List.mem_append, ← List.map_append, List.take_append_drop]
    rw [hall]
    have hnm : ∀ f ∈ L.map (·.1), f.name ≠ g.1.name := fun f hf => by obtain ⟨r, hr, rfl⟩ := List.mem_map.1 hf; exact hne r hr
    constructor
    · rintro (h | h | h)
      · exact .inr ⟨.inl h, hnm f (hall.2 (.inl h))⟩
      · exact .inl (by simpa using h)
      · exact .inr ⟨.inr h, hnm f (hall.2 (.inr h))⟩
    · rintro (h | ⟨h | h, _⟩)
      · exact .inr (.inl (by simpa using h))
      · exact .inl h
      · exact .inr (.inr h)
theorem delL_eq (L : FV) (nm : List UInt8) : delL L nm = L.eraseIdx (fndI L nm) := by unfold delL; rw [List.eraseIdx_eq_take_drop_succ]
theorem delL_fs {L : FV} {F : List Fil} (hF : L.map (·.1) = F) (hS : Srt F) {nm : List UInt8} (hlt : fndI L nm < L.length) : (delL L nm).map (·.1) = delF F nm := by
  subst hF
  obtain ⟨q, h1, h2⟩ := fnd_at hlt
  rw [delL_eq]
  have hsub : ((L.eraseIdx (fndI L nm)).map (·.1)).Sublist (L.map (·.1)) := (List.eraseIdx_sublist _ _).map _
  have hsrt : Srt ((L.eraseIdx (fndI L nm)).map (·.1)) := hS.sublist hsub
  refine srt_eq hsrt (srt_del hS nm) (perm_of_mem (srt_nodup hsrt) (srt_nodup (srt_del hS nm)) fun f => ?_)
  have hp : L.Perm (q :: L.eraseIdx (fndI L nm)) := (perm_erase L _ q h1).symm
  have hn2 := (((hp.map (·.1)).map (·.name)).nodup_iff.1 (srt_nodup hS))
  rw [List.map_cons, List.map_cons, List.nodup_cons] at hn2
  rw [mem_del, (hp.map (·.1)).mem_iff, List.map_cons, List.mem_cons]
  constructor
  · intro hm
    exact ⟨.inr hm, fun e4 => hn2.1 (List.mem_map.2 ⟨f, hm, e4.trans h2.symm⟩)⟩
  · rintro ⟨rfl | hm, h6⟩
    · exact absurd h2 h6
    · exact hm
theorem actsI_arm (D : Dsk) (a p : Int) : actsI (armD D a p).ar = max a (-1) := by
  unfold armD
  by_cases h : 0 ≤ a
  · simp only [if_pos h, actsI]; omega
  · simp only [if_neg h, actsI]; omega
theorem part_arm (D : Dsk) (a p : Int) : PartOk (armD D a p).ar p := by
  intro b q e
  unfold armD at e
  split at e
  · simp only [Option.some.injEq, Prod.mk.injEq] at e; exact e.2
  · cases e
def SlQ (L : FV) : Prop := ∀ q ∈ L, ∃ A l c, q.2 = .slice A l c
theorem fil_one {L : FV} (hV : SlQ L) : ∀ u ∈ rowC filC L, u.oneCell' = true := by
  intro u hu
  obtain ⟨c, hc, hu2⟩ := List.mem_flatten.1 hu
  obtain ⟨q, hq, rfl⟩ := List.mem_map.1 hc
  obtain ⟨A, l, cp, e⟩ := hV q hq
  simp only [filC, e, List.mem_cons, List.not_mem_nil, or_false] at hu2
  rcases hu2 with rfl | rfl | rfl <;> rfl
abbrev lstO (rv : Value) (L : FV) : Own := .row rv 93 3 L.length (rowC filC L)

theorem RSet_ct (xb : Nat) (rv : Value) (L : FV) (g : Fil × Value) (pw : Bool) (acts part : Int) (w : World) (hM : Mine w [rhdO xb rv pw acts part, lstO rv L]) (hv : ∃ A l c, g.2 = .slice A l c) (hV : SlQ L) (hN : L.length ≤ 1000000) :
    Fun Tryz.prog 45 [.pointer (some ⟨xb, 0, none⟩), .agg #[.string (bs g.1.name), g.2, .int .i64 ((g.1.sure : Nat) : Int)]] w fun v w' => ∃ rv', v = .tuple #[] ∧ Turn w w' [rhdO xb rv pw acts part, lstO rv L] [rhdO xb rv' pw acts part, lstO rv' (setL L g)] := by
  obtain ⟨Ar, cr, rfl, hcr1, hcr2⟩ := (Row.of_own (hM.1 (lstO rv L) (by simp))).form
  have hcr3 := hcr2
  simp only [maxLen] at hcr3
  obtain ⟨f, gv⟩ := g
  obtain ⟨Ag, lg, cg, hgv⟩ := hv
  simp only at hgv
  subst hgv
  refine fun_of_sw Tryz.func45 rfl 64 rfl rfl ?_
  have hH := Hp.start_mine hM
  replace hH : Hp w w _ _ [.blk xb 55 [.slice Ar L.length cr, .bool pw, .int .i64 acts, .int .i64 part], .row (.slice Ar L.length cr) 93 3 L.length (rowC filC L)] := hH
  refine sw_sr ?_
  refine gl_st (st_boxH (cs := [.string (bs f.name), .slice Ag lg cg, Ni f.sure]) rfl rfl rfl rfl hH ?_)
  clear hH; intro b1 w2 hH
  refine gl_dn rfl ?_
  refine sw_sr ?_
  refine gl_ops 2 [(0, Pp xb 0), (3, Pp b1 0), (6, Pp xb 0), (7, Pp b1 0)] (by kernel_rfl) ?_
  refine gl_q rfl rfl rfl (rd_loadK 2 (by kernel_rfl) hH rfl rfl rfl) ?_
  refine gl_st (st_call rfl rfl rfl (by kernel_rfl) rfl (RFind_ct xb _ L f.name _ (hH.blk_cell 0 rfl rfl) (hH.row_reads 1 rfl)) ?_)
  rintro _ w3 ⟨rfl, hF4⟩
  replace hH := hH.call hF4; clear hF4
  refine gl_ops 1 [(0, Pp xb 0), (3, Pp b1 0), (4, .int .i64 (fndZ L f.name))] (by kernel_rfl) ?_
  refine gl_dn rfl ?_
  refine sw_seq ?_
  refine sw_sr ?_
  refine gl_ops 2 [(0, Pp xb 0), (3, Pp b1 0), (4, .int .i64 (fndZ L f.name)), (11, .bool (decide ((fndZ L f.name) ≥ (0 : Int))))] (by kernel_rfl) ?_
  refine gl_dn rfl ?_
  refine sw_cond rfl rfl (fun hc1 => ?_) (fun hc1 => ?_)
  ·
    try simp only [decide_eq_true_eq] at hc1
    have hlt : fndI L f.name < L.length := by refine Classical.byContradiction fun h9 => ?_; unfold fndZ at hc1; rw [if_neg h9] at hc1; omega
    refine sw_cv 4 (Ni (fndI L f.name)) (by unfold fndZ; rw [if_pos hlt]) rfl ?_
    refine sw_seq ?_
    refine sw_draw (by kernel_rfl) (fun w_ => Hp w w_ (off w (blksOf [rhdO xb (.slice Ar L.length cr) pw acts part, lstO (.slice Ar L.length cr) L])) (blksOf [rhdO xb (.slice Ar L.length cr) pw acts part, lstO (.slice Ar L.length cr) L]) [.blk xb 55 [.slice Ar L.length cr, .bool pw, .int .i64 acts, .int .i64 part], .blk b1 93 [.string (bs f.name), .slice Ag lg cg, Ni f.sure]]) ?_
    replace hH := hH.drew
    generalize { w3 with drawn := w3.drawn + 1 } = w5 at hH ⊢
    have hS9 := hH.sublist (.cons_cons _ (.cons _ (.cons_cons _ (List.nil_sublist _))))
    refine gd_pure 0 rfl (by kernel_rfl) (PQ.th (PQ.th PQ.body)) hS9 rfl rfl (Pp xb 0) (by kernel_rfl) ?_
    refine gd_pure 1 rfl (by kernel_rfl) (PQ.th (PQ.th PQ.body)) hS9 rfl rfl (Pp xb 0) (by kernel_rfl) ?_
    refine gd_pure 2 rfl (by kernel_rfl) (PQ.th (PQ.th PQ.body)) hS9 rfl rfl (Pp xb 0) (by kernel_rfl) ?_
    refine gd_keep [(3, Pp b1 0), (4, Ni (fndI L f.name)), (14, Pp xb 0)] (by kernel_rfl) ?_
    refine gd_q 3 rfl (by kernel_rfl) (PQ.th (PQ.th PQ.body)) hS9 rfl rfl (fun w_ hS => (rd_loadK 0 (by kernel_rfl) hS rfl rfl rfl)) ?_
    refine gd_pure 4 rfl (by kernel_rfl) (PQ.th (PQ.th PQ.body)) hS9 rfl rfl (Ni (fndI L f.name)) (by kernel_rfl) ?_
    refine gd_q 5 rfl (by kernel_rfl) (PQ.th (PQ.th PQ.body)) hS9 rfl rfl (fun w_ hS => (rd_loadKA (m := 3) 1 (by kernel_rfl) hS rfl rfl (by kernel_rfl) [.string (bs f.name), .slice Ag lg cg, Ni f.sure] rfl rfl)) ?_
    refine gd_keep [(15, .slice Ar L.length cr), (16, Ni (fndI L f.name)), (17, .agg #[.string (bs f.name), .slice Ag lg cg, Ni f.sure])] (by kernel_rfl) ?_
    obtain ⟨b7, hb6, hi8⟩ := hH.row_idx 1 rfl (fndI L f.name) (by omega)
    refine gd_q 6 rfl (by kernel_rfl) (PQ.th (PQ.th PQ.body)) hS9 rfl rfl (fun w_ hS => (rd_idx (e := 93) (m := 3) (by kernel_rfl) (by kernel_rfl) rfl rfl hi8)) ?_
    refine gd_st 7 (by kernel_rfl) (st_storeOA (vs := [.string (bs f.name), .slice Ag lg cg, Ni f.sure]) 1 rfl rfl rfl hH rfl rfl rfl (by kernel_rfl) rfl hb6 (by rw [rowC_len filC_len]; show fndI L f.name * 3 + 3 ≤ _; omega) ?_)
    clear hH; intro w9 hH
    replace hH := hH.row_eq 1 (l' := L.length) (xs' := rowC filC (L.set (fndI L f.name) (f, .slice Ag lg cg))) rfl (rfl) (rowC_set filC_len (x := (f, Value.slice Ag lg cg)) hlt)
    replace hS9 := hH.sublist (.cons_cons _ (.cons _ (.cons_cons _ (List.nil_sublist _))))
    refine ⟨hS9, ?_⟩
    refine gd_keep [] (by kernel_rfl) ?_
    refine gd_done (by kernel_rfl) ?_
    refine at_sub [] (Sub.of_eq (by kernel_rfl)) ?_
    refine sw_next ?_
    refine sw_ret ?_
    refine thR ?_
    refine ret0 rfl  ?_
    replace hH := (hH.sublist (.cons_cons _ (.cons_cons _ (List.nil_sublist _))))
    replace hH : Hp w w9 _ _ [.blk xb 55 [.slice Ar L.length cr, .bool pw, .int .i64 acts, .int .i64 part], .row (.slice Ar L.length cr) 93 3 L.length (rowC filC (L.set (fndI L f.name) (f, .slice Ag lg cg)))] := hH
    have hset : setL L (f, Value.slice Ag lg cg) = L.set (fndI L f.name) (f, Value.slice Ag lg cg) := by unfold setL; rw [if_pos hlt]
    exact ⟨_, rfl, (hH.cast (by rw [hset, lstO, List.length_set]; rfl)).turned⟩
  try simp only [decide_eq_false_iff_not, Int.not_lt, Int.not_le] at hc1
  have hlt : ¬ fndI L f.name < L.length := by intro h9; unfold fndZ at hc1; rw [if_pos h9] at hc1; omega
  refine sw_skip ?_
  refine sw_next ?_
  refine sw_sr ?_
  refine gl_ops 1 [(0, Pp xb 0), (3, Pp b1 0), (5, .slice none 0 0)] (by kernel_rfl) ?_
  refine gl_dn rfl ?_
  refine sw_sr ?_
  refine gl_ops 1 [(0, Pp xb 0), (3, Pp b1 0), (4, .int .i64 0), (5, .slice none 0 0)] (by kernel_rfl) ?_
  refine gl_dn rfl ?_
  refine sw_cut (γ := Nat) (fun k => [(0, Pp xb 0), (3, Pp b1 0), (4, Ni k), (5, .slice none 0 0)]) (fun k w_ => (insK L f.name = k) ∧ (k ≤ L.length) ∧ Hp w w_ (off w (blksOf [rhdO xb (.slice Ar L.length cr) pw acts part, lstO (.slice Ar L.length cr) L])) (blksOf [rhdO xb (.slice Ar L.length cr) pw acts part, lstO (.slice Ar L.length cr) L]) [.blk xb 55 [.slice Ar L.length cr, .bool pw, .int .i64 acts, .int .i64 part], .row (.slice Ar L.length cr) 93 3 L.length (rowC filC L), .blk b1 93 [.string (bs f.name), .slice Ag lg cg, Ni f.sure]]) ?_ ?_
  ·
    refine sw_block ?_
    refine sw_loop (γ := Nat) (fun k => [(0, Pp xb 0), (3, Pp b1 0), (4, Ni k), (5, .slice none 0 0)]) (fun k w_ => (k ≤ L.length) ∧ (∀ j : Nat, j < k → ∀ r, L[j]? = some r → r.1.name < f.name) ∧ Hp w w_ (off w (blksOf [rhdO xb (.slice Ar L.length cr) pw acts part, lstO (.slice Ar L.length cr) L])) (blksOf [rhdO xb (.slice Ar L.length cr) pw acts part, lstO (.slice Ar L.length cr) L]) [.blk xb 55 [.slice Ar L.length cr, .bool pw, .int .i64 acts, .int .i64 part], .row (.slice Ar L.length cr) 93 3 L.length (rowC filC L), .blk b1 93 [.string (bs f.name), .slice Ag lg cg, Ni f.sure]]) (fun k => L.length - k) (0) (Sub.of_eq (by kernel_rfl)) ?_ ?_
    · exact ⟨by omega, fun j hj => absurd hj (by omega), hH⟩
    clear hH
    rintro k w10 ⟨hk, hall, hH⟩
    refine sw_keep [(0, Pp xb 0), (3, Pp b1 0), (4, Ni k), (5, .slice none 0 0)] (by kernel_rfl) ?_
    refine sw_seq ?_
    refine sw_seq ?_
    refine sw_draw (by kernel_rfl) (fun w_ => Hp w w_ (off w (blksOf [rhdO xb (.slice Ar L.length cr) pw acts part, lstO (.slice Ar L.length cr) L])) (blksOf [rhdO xb (.slice Ar L.length cr) pw acts part, lstO (.slice Ar L.length cr) L]) [.blk xb 55 [.slice Ar L.length cr, .bool pw, .int .i64 acts, .int .i64 part], .row (.slice Ar L.length cr) 93 3 L.length (rowC filC L), .blk b1 93 [.string (bs f.name), .slice Ag lg cg, Ni f.sure]]) ?_
    replace hH := hH.drew
    generalize { w10 with drawn := w10.drawn + 1 } = w11 at hH ⊢
    have hS9 := hH.sublist (.cons_cons _ (.cons_cons _ (.cons_cons _ (List.nil_sublist _))))
    refine gd_pure 0 rfl (by kernel_rfl) (PQ.th (PQ.th (PQ.th (PQ.bk (PQ.th PQ.body))))) hS9 rfl rfl (Ni k) (by kernel_rfl) ?_
    refine gd_pure 1 rfl (by kernel_rfl) (PQ.th (PQ.th (PQ.th (PQ.bk (PQ.th PQ.body))))) hS9 rfl rfl (Pp xb 0) (by kernel_rfl) ?_
    refine gd_pure 2 rfl (by kernel_rfl) (PQ.th (PQ.th (PQ.th (PQ.bk (PQ.th PQ.body))))) hS9 rfl rfl (Pp xb 0) (by kernel_rfl) ?_
    refine gd_keep [(0, Pp xb 0), (3, Pp b1 0), (4, Ni k), (5, .slice none 0 0), (19, Ni k), (21, Pp xb 0)] (by kernel_rfl) ?_
    refine gd_pure 3 rfl (by kernel_rfl) (PQ.th (PQ.th (PQ.th (PQ.bk (PQ.th PQ.body))))) hS9 rfl rfl (Pp xb 0) (by kernel_rfl) ?_
    refine gd_q 4 rfl (by kernel_rfl) (PQ.th (PQ.th (PQ.th (PQ.bk (PQ.th PQ.body))))) hS9 rfl rfl (fun w_ hS => (rd_loadK 0 (by kernel_rfl) hS rfl rfl rfl)) ?_
    refine gd_q 5 rfl (by kernel_rfl) (PQ.th (PQ.th (PQ.th (PQ.bk (PQ.th PQ.body))))) hS9 rfl rfl (fun w_ hS => (rd_len (e := 93) (by kernel_rfl) rfl)) ?_
    refine gd_keep [(0, Pp xb 0), (3, Pp b1 0), (4, Ni k), (5, .slice none 0 0), (19, Ni k), (24, Ni L.length)] (by kernel_rfl) ?_
    refine gd_pure 6 rfl (by kernel_rfl) (PQ.th (PQ.th (PQ.th (PQ.bk (PQ.th PQ.body))))) hS9 rfl rfl (.bool (decide (((k : Nat) : Int) < ((L.length : Nat) : Int)))) (by kernel_rfl) ?_
    refine gd_pure 7 rfl (by kernel_rfl) (PQ.th (PQ.th (PQ.th (PQ.bk (PQ.th PQ.body))))) hS9 rfl rfl (.bool (decide (((k : Nat) : Int) < ((L.length : Nat) : Int)))) (by kernel_rfl) ?_
    refine gd_split 26 (b := decide (((k : Nat) : Int) < ((L.length : Nat) : Int))) rfl (fun hg2 => ?_) (fun hg2 => ?_)
    ·
      refine gd_cv 25 (.bool true) (by rw [hg2]) rfl ?_
      try simp only [decide_eq_true_eq] at hg2
      obtain ⟨q, hq⟩ : ∃ q, L[k]? = some q := ⟨_, List.getElem?_eq_getElem (by omega)⟩
      refine gd_pure 8 rfl (by kernel_rfl) (PQ.th (PQ.th (PQ.th (PQ.bk (PQ.th PQ.body))))) hS9 rfl rfl (Pp xb 0) (by kernel_rfl) ?_
      refine gd_keep [(0, Pp xb 0), (3, Pp b1 0), (4, Ni k), (5, .slice none 0 0), (26, .bool true), (27, Pp xb 0)] (by kernel_rfl) ?_
      refine gd_pure 9 rfl (by kernel_rfl) (PQ.th (PQ.th (PQ.th (PQ.bk (PQ.th PQ.body))))) hS9 rfl rfl (Pp xb 0) (by kernel_rfl) ?_
      refine gd_pure 10 rfl (by kernel_rfl) (PQ.th (PQ.th (PQ.th (PQ.bk (PQ.th PQ.body))))) hS9 rfl rfl (Pp xb 0) (by kernel_rfl) ?_
      refine gd_q 11 rfl (by kernel_rfl) (PQ.th (PQ.th (PQ.th (PQ.bk (PQ.th PQ.body))))) hS9 rfl rfl (fun w_ hS => (rd_loadK 0 (by kernel_rfl) hS rfl rfl rfl)) ?_
      refine gd_keep [(0, Pp xb 0), (3, Pp b1 0), (4, Ni k), (5, .slice none 0 0), (26, .bool true), (30, .slice Ar L.length cr)] (by kernel_rfl) ?_
      refine gd_pure 12 rfl (by kernel_rfl) (PQ.th (PQ.th (PQ.th (PQ.bk (PQ.th PQ.body))))) hS9 rfl rfl (Ni k) (by kernel_rfl) ?_
      obtain ⟨b13, hb12, hi14⟩ := hH.row_idx 1 rfl k (by omega)
      refine gd_q 13 rfl (by kernel_rfl) (PQ.th (PQ.th (PQ.th (PQ.bk (PQ.th PQ.body))))) hS9 rfl rfl (fun w_ hS => (rd_idx (e := 93) (m := 3) (by kernel_rfl) (by kernel_rfl) rfl rfl hi14)) ?_
      refine gd_pure 14 rfl (by kernel_rfl) (PQ.th (PQ.th (PQ.th (PQ.bk (PQ.th PQ.body))))) hS9 rfl rfl (Pp b13 (k * 3)) (by kernel_rfl) ?_
      refine gd_keep [(0, Pp xb 0), (3, Pp b1 0), (4, Ni k), (5, .slice none 0 0), (26, .bool true), (33, Pp b13 (k * 3))] (by kernel_rfl) ?_
      refine gd_q 15 rfl (by kernel_rfl) (PQ.th (PQ.th (PQ.th (PQ.bk (PQ.th PQ.body))))) hS9 rfl rfl (fun w_ hS => (rd_loadO 1 (by kernel_rfl) hS rfl rfl hb12 (rowC_at filC_len hq 0 (by decide) rfl))) ?_
      refine gd_pure 16 rfl (by kernel_rfl) (PQ.th (PQ.th (PQ.th (PQ.bk (PQ.th PQ.body))))) hS9 rfl rfl (Pp b1 0) (by kernel_rfl) ?_
      refine gd_q 17 rfl (by kernel_rfl) (PQ.th (PQ.th (PQ.th (PQ.bk (PQ.th PQ.body))))) hS9 rfl rfl (fun w_ hS => (rd_loadK 2 (by kernel_rfl) hS rfl rfl rfl)) ?_
      refine gd_keep [(0, Pp xb 0), (3, Pp b1 0), (4, Ni k), (5, .slice none 0 0), (26, .bool true), (34, .string (bs q.1.name)), (36, .string (bs f.name))] (by kernel_rfl) ?_
      refine gd_q 18 rfl (by kernel_rfl) (PQ.th (PQ.th (PQ.th (PQ.bk (PQ.th PQ.body))))) hS9 rfl rfl (fun w_ hS => (rd_slss (by kernel_rfl) rfl rfl)) ?_
      refine gd_pure 19 rfl (by kernel_rfl) (PQ.th (PQ.th (PQ.th (PQ.bk (PQ.th PQ.body))))) hS9 rfl rfl (.bool (decide (q.1.name < f.name))) (by kernel_rfl) ?_
      refine gd_done (by kernel_rfl) ?_
      refine at_sub [(0, Pp xb 0), (3, Pp b1 0), (4, Ni k), (5, .slice none 0 0), (38, .bool (decide (q.1.name < f.name)))] (Sub.of_eq (by kernel_rfl)) ?_
      refine sw_next ?_
      refine sw_cond rfl rfl (fun hc3 => ?_) (fun hc3 => ?_)
      ·
        replace hc3 := of_decide_eq_true hc3
        have hlts := hc3
        refine sw_skip ?_
        refine sw_next ?_
        refine sw_block ?_
        refine sw_region ?_
        refine gl_ops 2 [(0, Pp xb 0), (3, Pp b1 0), (5, .slice none 0 0), (40, .int .i64 (IntKind.i64.wrap (((k : Nat) : Int) + 1)))] (by kernel_rfl) ?_
        refine gl_cv 40 (Ni (k + 1)) (cv_i64 (by omega)) rfl ?_
        refine gl_ops 1 [(0, Pp xb 0), (3, Pp b1 0), (4, Ni (k + 1)), (5, .slice none 0 0)] (by kernel_rfl) ?_
        refine gl_done rfl ?_
        refine bkN ?_
        refine rnd_end (g := (k)) (k + 1) (by kernel_rfl) ?_ ?_
        · exact ⟨by omega, all_nx hall (fun r hr => by rw [hq] at hr; cases hr; exact hlts), hH⟩
        · show L.length - (k + 1) < L.length - k; omega
      replace hc3 := of_decide_eq_false hc3
      refine sw_exit ?_
      refine thX ?_
      refine thX ?_
      refine bkH ?_
      refine cut_end (k) (Sub.of_eq (by kernel_rfl)) ?_
      exact ⟨insK_is hk hall (.inr ⟨q, hq, hc3⟩), hk, hH⟩
    ·
      refine gd_cv 25 (.bool false) (by rw [hg2]) rfl ?_
      try simp only [decide_eq_false_iff_not, Int.not_lt, Int.not_le] at hg2
      refine gd_not 8 rfl (by kernel_rfl) (PQ.th (PQ.th (PQ.th (PQ.bk (PQ.th PQ.body))))) hS9 rfl rfl ?_
      refine gd_keep [(0, Pp xb 0), (3, Pp b1 0), (4, Ni k), (5, .slice none 0 0), (26, .bool false), (27, undef)] (by kernel_rfl) ?_
      refine gd_not 9 rfl (by kernel_rfl) (PQ.th (PQ.th (PQ.th (PQ.bk (PQ.th PQ.body))))) hS9 rfl rfl ?_
      refine gd_not 10 rfl (by kernel_rfl) (PQ.th (PQ.th (PQ.th (PQ.bk (PQ.th PQ.body))))) hS9 rfl rfl ?_
      refine gd_not 11 rfl (by kernel_rfl) (PQ.th (PQ.th (PQ.th (PQ.bk (PQ.th PQ.body))))) hS9 rfl rfl ?_
      refine gd_keep [(0, Pp xb 0), (3, Pp b1 0), (4, Ni k), (5, .slice none 0 0), (26, .bool false), (30, undef)] (by kernel_rfl) ?_
      refine gd_not 12 rfl (by kernel_rfl) (PQ.th (PQ.th (PQ.th (PQ.bk (PQ.th PQ.body))))) hS9 rfl rfl ?_
      refine gd_not 13 rfl (by kernel_rfl) (PQ.th (PQ.th (PQ.th (PQ.bk (PQ.th PQ.body))))) hS9 rfl rfl ?_
      refine gd_not 14 rfl (by kernel_rfl) (PQ.th (PQ.th (PQ.th (PQ.bk (PQ.th PQ.body))))) hS9 rfl rfl ?_
      refine gd_keep [(0, Pp xb 0), (3, Pp b1 0), (4, Ni k), (5, .slice none 0 0), (26, .bool false), (33, undef)] (by kernel_rfl) ?_
      refine gd_not 15 rfl (by kernel_rfl) (PQ.th (PQ.th (PQ.th (PQ.bk (PQ.th PQ.body))))) hS9 rfl rfl ?_
      refine gd_not 16 rfl (by kernel_rfl) (PQ.th (PQ.th (PQ.th (PQ.bk (PQ.th PQ.body))))) hS9 rfl rfl ?_
      refine gd_not 17 rfl (by kernel_rfl) (PQ.th (PQ.th (PQ.th (PQ.bk (PQ.th PQ.body))))) hS9 rfl rfl ?_
      refine gd_keep [(0, Pp xb 0), (3, Pp b1 0), (4, Ni k), (5, .slice none 0 0), (26, .bool false), (34, undef), (36, undef)] (by kernel_rfl) ?_
      refine gd_not 18 rfl (by kernel_rfl) (PQ.th (PQ.th (PQ.th (PQ.bk (PQ.th PQ.body))))) hS9 rfl rfl ?_
      refine gd_pure 19 rfl (by kernel_rfl) (PQ.th (PQ.th (PQ.th (PQ.bk (PQ.th PQ.body))))) hS9 rfl rfl (.bool false) (by kernel_rfl) ?_
      refine gd_done (by kernel_rfl) ?_
      refine at_sub [(0, Pp xb 0), (3, Pp b1 0), (4, Ni k), (5, .slice none 0 0), (38, .bool false)] (Sub.of_eq (by kernel_rfl)) ?_
      refine sw_next ?_
      refine sw_false rfl rfl ?_
      refine sw_exit ?_
      refine thX ?_
      refine thX ?_
      refine bkH ?_
      refine cut_end (k) (Sub.of_eq (by kernel_rfl)) ?_
      exact ⟨insK_is hk hall (.inl (by omega)), hk, hH⟩
  clear hH
  rintro k w15 ⟨hins, hkl, hH⟩
  refine sw_keep [(0, Pp xb 0), (3, Pp b1 0), (4, Ni k), (5, .slice none 0 0)] (by kernel_rfl) ?_
  refine sw_sr ?_
  refine gl_ops 4 [(0, Pp xb 0), (3, Pp b1 0), (4, Ni k), (41, .slice none 0 0), (44, Pp xb 0)] (by kernel_rfl) ?_
  refine gl_q rfl rfl rfl (rd_loadK 0 (by kernel_rfl) hH rfl rfl rfl) ?_
  obtain ⟨A16, hk17, hv18⟩ := hH.row_win 1 rfl 0 k cr (by omega) (by omega) (by omega) (by omega)
  refine gl_ops 1 [(0, Pp xb 0), (3, Pp b1 0), (4, Ni k), (41, .slice none 0 0), (45, .slice Ar L.length cr), (46, Ni k)] (by kernel_rfl) ?_
  refine gl_q rfl rfl rfl (rd_cut (e := 93) (m := 3) (by kernel_rfl) (by kernel_rfl) rfl (.inl ⟨rfl, rfl⟩) (.inr ⟨_, _, rfl, rfl⟩) hk17) ?_
  replace hH := hH.nilRow 93 3
  refine gl_st (st_appH (e := 93) (zv := .agg #[.string (bs []), .slice none 0 0, .int .i64 0]) (m := 3) (bytes := 48) 3 rfl rfl rfl (by kernel_rfl) (by kernel_rfl) rfl (by decide) hH rfl rfl rfl (Win.reads hH 1 rfl hv18 (by omega) (by omega) (by omega)) (fun u hu => fil_one hV u (List.mem_of_mem_drop (List.mem_of_mem_take hu))) (by unfold maxLen; omega) (by omega) ?_)
  clear hH; intro v19 w20 hH
  replace hH := hH.row_eq 3 (l' := (L.take k).length) (xs' := rowC filC (L.take k)) rfl (by rw [List.length_take]; omega) (by simp [rowC_take filC_len])
  obtain ⟨A21, c22, rfl, hl23, hm24⟩ := hH.row_form 3 rfl
  refine gl_ops 1 [(0, Pp xb 0), (3, Pp b1 0), (4, Ni k), (5, .slice A21 ((L.take k).length) c22)] (by kernel_rfl) ?_
  refine gl_dn rfl ?_
  refine sw_sr ?_
  refine gl_ops 1 [(0, Pp xb 0), (3, Pp b1 0), (4, Ni k), (49, .slice A21 ((L.take k).length) c22)] (by kernel_rfl) ?_
  refine gl_q rfl rfl rfl (rd_loadKA (m := 3) 2 (by kernel_rfl) hH rfl rfl (by kernel_rfl) [.string (bs f.name), .slice Ag lg cg, Ni f.sure] rfl rfl) ?_
  refine gl_st (st_buildS (e := 93) (zv := .agg #[.string (bs []), .slice none 0 0, .int .i64 0]) (m := 3) (bytes := 48) rfl rfl rfl (by kernel_rfl) (by kernel_rfl) rfl (cs := [.string (bs f.name), .slice Ag lg cg, Ni f.sure]) (by kernel_rfl) rfl hH ?_)
  clear hH; intro b25 w26 hH
  refine gl_st (st_appH (e := 93) (zv := .agg #[.string (bs []), .slice none 0 0, .int .i64 0]) (m := 3) (bytes := 48) 3 rfl rfl rfl (by kernel_rfl) (by kernel_rfl) rfl (by decide) hH rfl rfl rfl (hH.row_reads 4 rfl) (by simp [Value.oneCell']) (by rw [List.length_take]; unfold maxLen; omega) (by rw [List.length_take]; omega) ?_)
  clear hH; intro v27 w28 hH
  replace hH := hH.row_eq 3 (l' := (L.take k ++ [(f, Value.slice Ag lg cg)]).length) (xs' := rowC filC (L.take k ++ [(f, Value.slice Ag lg cg)])) rfl (by simp) (by rw [← rowC_app, rowC_one]; rfl)
  obtain ⟨A29, c30, rfl, hl31, hm32⟩ := hH.row_form 3 rfl
  refine gl_ops 1 [(0, Pp xb 0), (4, Ni k), (5, .slice A29 ((L.take k ++ [(f, Value.slice Ag lg cg)]).length) c30)] (by kernel_rfl) ?_
  refine gl_dn rfl ?_
  refine sw_region ?_
  refine gl_ops 5 [(4, Ni k), (53, Pp xb 0), (54, .slice A29 ((L.take k ++ [(f, Value.slice Ag lg cg)]).length) c30), (57, Pp xb 0)] (by kernel_rfl) ?_
  refine gl_q rfl rfl rfl (rd_loadK 0 (by kernel_rfl) hH rfl rfl rfl) ?_
  obtain ⟨A33, hk34, hv35⟩ := hH.row_win 1 rfl k L.length cr (by omega) (by omega) (by omega) (by omega)
  refine gl_ops 1 [(53, Pp xb 0), (54, .slice A29 ((L.take k ++ [(f, Value.slice Ag lg cg)]).length) c30), (58, .slice Ar L.length cr), (59, Ni k)] (by kernel_rfl) ?_
  refine gl_q rfl rfl rfl (rd_cut (e := 93) (m := 3) (by kernel_rfl) (by kernel_rfl) rfl (.inr ⟨_, _, rfl, rfl⟩) (.inl ⟨rfl, rfl⟩) hk34) ?_
  refine gl_st (st_appH (e := 93) (zv := .agg #[.string (bs []), .slice none 0 0, .int .i64 0]) (m := 3) (bytes := 48) 3 rfl rfl rfl (by kernel_rfl) (by kernel_rfl) rfl (by decide) hH rfl rfl rfl (Win.reads hH 1 rfl hv35 (by omega) (by omega) (by omega)) (fun u hu => fil_one hV u (List.mem_of_mem_drop (List.mem_of_mem_take hu))) (by simp only [List.length_append, List.length_take, List.length_singleton]; unfold maxLen; omega) (by simp only [List.length_append, List.length_take, List.length_singleton]; omega) ?_)
  clear hH; intro v36 w37 hH
  replace hH := hH.row_eq 3 (l' := (L.take k ++ [(f, Value.slice Ag lg cg)] ++ L.drop k).length) (xs' := rowC filC (L.take k ++ [(f, Value.slice Ag lg cg)] ++ L.drop k)) rfl (by simp; omega) (by rw [← rowC_app filC (L.take k ++ [(f, Value.slice Ag lg cg)]) (L.drop k)]; congr 1; rw [rowC_drop filC_len, List.take_of_length_le (by rw [rowC_len filC_len, List.length_drop]; omega)])
  obtain ⟨A38, c39, rfl, hl40, hm41⟩ := hH.row_form 3 rfl
  refine gl_ops 2 [(61, .slice A38 ((L.take k ++ [(f, Value.slice Ag lg cg)] ++ L.drop k).length) c39), (63, Pp xb 0)] (by kernel_rfl) ?_
  refine gl_st (st_storeK (v := .slice A38 ((L.take k ++ [(f, Value.slice Ag lg cg)] ++ L.drop k).length) c39) 0 rfl rfl rfl hH rfl rfl rfl (by kernel_rfl) rfl (by simp) ?_)
  clear hH; intro w42 hH
  refine gl_done rfl ?_
  refine end0 rfl ?_
  replace hH := hH.pick [0, 3, 1, 2, 4] (by kernel_rfl) (os' := [.blk xb 55 [.slice A38 ((L.take k ++ [(f, Value.slice Ag lg cg)] ++ L.drop k).length) c39, .bool pw, .int .i64 acts, .int .i64 part], .row (.slice A38 ((L.take k ++ [(f, Value.slice Ag lg cg)] ++ L.drop k).length) c39) 93 3 ((L.take k ++ [(f, Value.slice Ag lg cg)] ++ L.drop k).length) (rowC filC (L.take k ++ [(f, Value.slice Ag lg cg)] ++ L.drop k)), .row (.slice Ar L.length cr) 93 3 L.length (rowC filC L), .blk b1 93 [.string (bs f.name), .slice Ag lg cg, Ni f.sure], .row (.slice (some ⟨b25, 0, none⟩) 1 1) 93 3 1 [.string (bs f.name), .slice Ag lg cg, Ni f.sure]]) (by kernel_rfl)
  replace hH := (hH.sublist (.cons_cons _ (.cons_cons _ (List.nil_sublist _))))
  replace hH : Hp w w42 _ _ [.blk xb 55 [.slice A38 ((L.take k ++ [(f, Value.slice Ag lg cg)] ++ L.drop k).length) c39, .bool pw, .int .i64 acts, .int .i64 part], .row (.slice A38 ((L.take k ++ [(f, Value.slice Ag lg cg)] ++ L.drop k).length) c39) 93 3 ((L.take k ++ [(f, Value.slice Ag lg cg)] ++ L.drop k).length) (rowC filC (L.take k ++ [(f, Value.slice Ag lg cg)] ++ L.drop k))] := hH
  have hset : setL L (f, Value.slice Ag lg cg) = L.take k ++ [(f, Value.slice Ag lg cg)] ++ L.drop k := by unfold setL; rw [if_neg hlt, hins]
  exact ⟨_, rfl, (hH.cast (by rw [hset]; rfl)).turned⟩
theorem RUnset_ct (xb : Nat) (rv : Value) (L : FV) (nm : List UInt8) (pw : Bool) (acts part : Int) (w : World) (hM : Mine w [rhdO xb rv pw acts part, lstO rv L]) (hlt : fndI L nm < L.length) (hV : SlQ L) (hN : L.length ≤ 1000000) :
    Fun Tryz.prog 44 [.pointer (some ⟨xb, 0, none⟩), .string (bs nm)] w fun v w' => ∃ rv', v = .tuple #[] ∧ Turn w w' [rhdO xb rv pw acts part, lstO rv L] [rhdO xb rv' pw acts part, lstO rv' (delL L nm)] := by
  obtain ⟨Ar, cr, rfl, hcr1, hcr2⟩ := (Row.of_own (hM.1 (lstO rv L) (by simp))).form
  have hcr3 := hcr2
  simp only [maxLen] at hcr3
  refine fun_of_sw Tryz.func44 rfl 29 rfl rfl ?_
  have hH := Hp.start_mine hM
  replace hH : Hp w w _ _ [.blk xb 55 [.slice Ar L.length cr, .bool pw, .int .i64 acts, .int .i64 part], .row (.slice Ar L.length cr) 93 3 L.length (rowC filC L)] := hH
  refine sw_sr ?_
  refine gl_ops 2 [(0, Pp xb 0), (6, Pp xb 0), (7, .string (bs nm))] (by kernel_rfl) ?_
  refine gl_st (st_call rfl rfl rfl (by kernel_rfl) rfl (RFind_ct xb _ L nm _ (hH.blk_cell 0 rfl rfl) (hH.row_reads 1 rfl)) ?_)
  rintro _ w1 ⟨rfl, hF2⟩
  replace hH := hH.call hF2; clear hF2
  refine gl_cv 8 (Ni (fndI L nm)) (by unfold fndZ; rw [if_pos hlt]) rfl ?_
  have hfz : fndZ L nm = ((fndI L nm : Nat) : Int) := by unfold fndZ; rw [if_pos hlt]
  refine gl_ops 1 [(0, Pp xb 0), (4, Ni (fndI L nm))] (by kernel_rfl) ?_
  refine gl_dn rfl ?_
  refine sw_sr ?_
  refine gl_ops 1 [(0, Pp xb 0), (4, Ni (fndI L nm)), (5, .slice none 0 0)] (by kernel_rfl) ?_
  refine gl_dn rfl ?_
  refine sw_seq ?_
  refine sw_draw (by kernel_rfl) (fun w_ => Hp w w_ (off w (blksOf [rhdO xb (.slice Ar L.length cr) pw acts part, lstO (.slice Ar L.length cr) L])) (blksOf [rhdO xb (.slice Ar L.length cr) pw acts part, lstO (.slice Ar L.length cr) L]) [.blk xb 55 [.slice Ar L.length cr, .bool pw, .int .i64 acts, .int .i64 part], .row (.slice Ar L.length cr) 93 3 L.length (rowC filC L)]) ?_
  replace hH := hH.drew
  generalize { w1 with drawn := w1.drawn + 1 } = w3 at hH ⊢
  have hS9 := hH.sublist (.cons_cons _ (.cons_cons _ (List.nil_sublist _)))
  refine gd_pure 0 rfl (by kernel_rfl) (PQ.th PQ.body) hS9 rfl rfl (.slice none 0 0) (by kernel_rfl) ?_
  refine gd_pure 1 rfl (by kernel_rfl) (PQ.th PQ.body) hS9 rfl rfl (Pp xb 0) (by kernel_rfl) ?_
  refine gd_pure 2 rfl (by kernel_rfl) (PQ.th PQ.body) hS9 rfl rfl (Pp xb 0) (by kernel_rfl) ?_
  refine gd_keep [(0, Pp xb 0), (4, Ni (fndI L nm)), (5, .slice none 0 0), (9, .slice none 0 0), (11, Pp xb 0)] (by kernel_rfl) ?_
  refine gd_pure 3 rfl (by kernel_rfl) (PQ.th PQ.body) hS9 rfl rfl (Pp xb 0) (by kernel_rfl) ?_
  refine gd_q 4 rfl (by kernel_rfl) (PQ.th PQ.body) hS9 rfl rfl (fun w_ hS => (rd_loadK 0 (by kernel_rfl) hS rfl rfl rfl)) ?_
  refine gd_pure 5 rfl (by kernel_rfl) (PQ.th PQ.body) hS9 rfl rfl (Ni (fndI L nm)) (by kernel_rfl) ?_
  refine gd_keep [(0, Pp xb 0), (4, Ni (fndI L nm)), (5, .slice none 0 0), (9, .slice none 0 0), (13, .slice Ar L.length cr), (14, Ni (fndI L nm))] (by kernel_rfl) ?_
  obtain ⟨A4, hk5, hv6⟩ := hH.row_win 1 rfl 0 (fndI L nm) cr (by omega) (by omega) (by omega) (by omega)
  refine gd_q 6 rfl (by kernel_rfl) (PQ.th PQ.body) hS9 rfl rfl (fun w_ hS => (rd_cut (e := 93) (m := 3) (by kernel_rfl) (by kernel_rfl) rfl (.inl ⟨rfl, rfl⟩) (.inr ⟨_, _, rfl, rfl⟩) hk5)) ?_
  refine gd_pure 8 rfl (by kernel_rfl) (PQ.th PQ.body) hS9 rfl rfl (Pp xb 0) (by kernel_rfl) ?_
  refine gd_pure 9 rfl (by kernel_rfl) (PQ.th PQ.body) hS9 rfl rfl (Pp xb 0) (by kernel_rfl) ?_
  refine gd_keep [(0, Pp xb 0), (4, Ni (fndI L nm)), (5, .slice none 0 0), (9, .slice none 0 0), (15, .slice A4 ((fndI L nm) - 0) (cr - 0)), (18, Pp xb 0)] (by kernel_rfl) ?_
  refine gd_pure 10 rfl (by kernel_rfl) (PQ.th PQ.body) hS9 rfl rfl (Pp xb 0) (by kernel_rfl) ?_
  refine gd_q 11 rfl (by kernel_rfl) (PQ.th PQ.body) hS9 rfl rfl (fun w_ hS => (rd_loadK 0 (by kernel_rfl) hS rfl rfl rfl)) ?_
  refine gd_pure 12 rfl (by kernel_rfl) (PQ.th PQ.body) hS9 rfl rfl (Ni (fndI L nm)) (by kernel_rfl) ?_
  refine gd_keep [(0, Pp xb 0), (5, .slice none 0 0), (9, .slice none 0 0), (15, .slice A4 ((fndI L nm) - 0) (cr - 0)), (20, .slice Ar L.length cr), (21, Ni (fndI L nm))] (by kernel_rfl) ?_
  refine gd_pure 13 rfl (by kernel_rfl) (PQ.th PQ.body) hS9 rfl rfl (.int .i64 (IntKind.i64.wrap (((fndI L nm : Nat) : Int) + 1))) (by kernel_rfl) ?_
  refine gd_cv 22 (Ni ((fndI L nm) + 1)) (cv_i64 (by omega)) rfl ?_
  obtain ⟨A7, hk8, hv9⟩ := hH.row_win 1 rfl ((fndI L nm) + 1) L.length cr (by omega) (by omega) (by omega) (by omega)
  refine gd_q 14 rfl (by kernel_rfl) (PQ.th PQ.body) hS9 rfl rfl (fun w_ hS => (rd_cut (e := 93) (m := 3) (by kernel_rfl) (by kernel_rfl) rfl (.inr ⟨_, _, rfl, rfl⟩) (.inl ⟨rfl, rfl⟩) hk8)) ?_
  replace hH := hH.nilRow 93 3
  refine gd_st 7 (by kernel_rfl) (st_appH (e := 93) (zv := .agg #[.string (bs []), .slice none 0 0, .int .i64 0]) (m := 3) (bytes := 48) 2 rfl rfl rfl (by kernel_rfl) (by kernel_rfl) rfl (by decide) hH rfl rfl rfl (Win.reads hH 1 rfl hv6 (by omega) (by omega) (by omega)) (fun u hu => fil_one hV u (List.mem_of_mem_drop (List.mem_of_mem_take hu))) (by unfold maxLen; omega) (by omega) ?_)
  clear hH; intro v10 w11 hH
  replace hH := hH.row_eq 2 (l' := (L.take (fndI L nm)).length) (xs' := rowC filC (L.take (fndI L nm))) rfl (by simp only [List.length_take]; omega) (by simp [rowC_take filC_len])
  obtain ⟨A12, c13, rfl, hl14, hm15⟩ := hH.row_form 2 rfl
  replace hS9 := hH.sublist (.cons_cons _ (.cons_cons _ (List.nil_sublist _)))
  refine ⟨hS9, ?_⟩
  refine gd_keep [(0, Pp xb 0), (5, .slice none 0 0), (16, .slice A12 ((L.take (fndI L nm)).length) c13), (23, .slice A7 (L.length - ((fndI L nm) + 1)) (cr - ((fndI L nm) + 1)))] (by kernel_rfl) ?_
  refine gd_st 15 (by kernel_rfl) (st_appH (e := 93) (zv := .agg #[.string (bs []), .slice none 0 0, .int .i64 0]) (m := 3) (bytes := 48) 2 rfl rfl rfl (by kernel_rfl) (by kernel_rfl) rfl (by decide) hH rfl rfl rfl (Win.reads hH 1 rfl hv9 (by omega) (by omega) (by omega)) (fun u hu => fil_one hV u (List.mem_of_mem_drop (List.mem_of_mem_take hu))) (by rw [List.length_take]; unfold maxLen; omega) (by rw [List.length_take]; omega) ?_)
  clear hH; intro v16 w17 hH
  replace hH := hH.row_eq 2 (l' := (L.take (fndI L nm) ++ L.drop (fndI L nm + 1)).length) (xs' := rowC filC (L.take (fndI L nm) ++ L.drop (fndI L nm + 1))) rfl (by first | (simp only [List.length_append, List.length_take, List.length_drop]; done) | (simp only [List.length_append, List.length_take, List.length_drop]; omega)) (by rw [← rowC_app filC (L.take (fndI L nm)) (L.drop (fndI L nm + 1))]; congr 1; rw [rowC_drop filC_len]; exact List.take_of_length_le (by rw [rowC_len filC_len, List.length_drop]; omega))
  obtain ⟨A18, c19, rfl, hl20, hm21⟩ := hH.row_form 2 rfl
  replace hS9 := hH.sublist (.cons_cons _ (.cons_cons _ (List.nil_sublist _)))
  refine ⟨hS9, ?_⟩
  refine gd_keep [(0, Pp xb 0), (5, .slice none 0 0), (24, .slice A18 ((L.take (fndI L nm) ++ L.drop (fndI L nm + 1)).length) c19)] (by kernel_rfl) ?_
  refine gd_pure 16 rfl (by kernel_rfl) (PQ.th PQ.body) hS9 rfl rfl (.slice A18 ((L.take (fndI L nm) ++ L.drop (fndI L nm + 1)).length) c19) (by kernel_rfl) ?_
  refine gd_done (by kernel_rfl) ?_
  refine at_sub [(0, Pp xb 0), (5, .slice A18 ((L.take (fndI L nm) ++ L.drop (fndI L nm + 1)).length) c19)] (Sub.of_eq (by kernel_rfl)) ?_
  refine sw_next ?_
  refine sw_region ?_
  refine gl_ops 4 [(26, .slice A18 ((L.take (fndI L nm) ++ L.drop (fndI L nm + 1)).length) c19), (28, Pp xb 0)] (by kernel_rfl) ?_
  refine gl_st (st_storeK (v := .slice A18 ((L.take (fndI L nm) ++ L.drop (fndI L nm + 1)).length) c19) 0 rfl rfl rfl hH rfl rfl rfl (by kernel_rfl) rfl (by simp) ?_)
  clear hH; intro w22 hH
  refine gl_done rfl ?_
  refine end0 rfl ?_
  replace hH := hH.pick [0, 2, 1] (by kernel_rfl) (os' := [.blk xb 55 [.slice A18 ((L.take (fndI L nm) ++ L.drop (fndI L nm + 1)).length) c19, .bool pw, .int .i64 acts, .int .i64 part], .row (.slice A18 ((L.take (fndI L nm) ++ L.drop (fndI L nm + 1)).length) c19) 93 3 ((L.take (fndI L nm) ++ L.drop (fndI L nm + 1)).length) (rowC filC (L.take (fndI L nm) ++ L.drop (fndI L nm + 1))), .row (.slice Ar L.length cr) 93 3 L.length (rowC filC L)]) (by kernel_rfl)
  replace hH := (hH.sublist (.cons_cons _ (.cons_cons _ (List.nil_sublist _))))
  replace hH : Hp w w22 _ _ [.blk xb 55 [.slice A18 ((L.take (fndI L nm) ++ L.drop (fndI L nm + 1)).length) c19, .bool pw, .int .i64 acts, .int .i64 part], .row (.slice A18 ((L.take (fndI L nm) ++ L.drop (fndI L nm + 1)).length) c19) 93 3 ((L.take (fndI L nm) ++ L.drop (fndI L nm + 1)).length) (rowC filC (L.take (fndI L nm) ++ L.drop (fndI L nm + 1)))] := hH
  exact ⟨_, rfl, (hH.cast (by unfold delL; rfl)).turned⟩
theorem RArm_ct (xb : Nat) (rv : Value) (pw : Bool) (a0 p0 acts part : Int) (w : World) (hM : Mine w [rhdO xb rv pw a0 p0]) :
    Fun Tryz.prog 15 [.pointer (some ⟨xb, 0, none⟩), .int .i64 acts, .int .i64 part] w fun v w' => v = .tuple #[] ∧ Turn w w' [rhdO xb rv pw a0 p0] [rhdO xb rv pw (max acts (-1)) part] := by
  refine fun_of_sw Tryz.func15 rfl 15 rfl rfl ?_
  have hH := Hp.start_mine hM
  replace hH : Hp w w _ _ [.blk xb 55 [rv, .bool pw, .int .i64 a0, .int .i64 p0]] := hH
  refine sw_sr ?_
  refine gl_ops 3 [(0, Pp xb 0), (2, .int .i64 part), (6, Pp xb 0), (8, .int .i64 (if (-1) > acts then (-1) else acts))] (by kernel_rfl) ?_
  refine gl_cv 8 (.int .i64 (max acts (-1))) (cv_maxI) rfl ?_
  refine gl_ops 2 [(0, Pp xb 0), (2, .int .i64 part), (8, .int .i64 (max acts (-1))), (10, Pp xb 2)] (by kernel_rfl) ?_
  refine gl_st (st_storeK (v := .int .i64 (max acts (-1))) 0 rfl rfl rfl hH rfl rfl rfl (by kernel_rfl) rfl (by simp) ?_)
  clear hH; intro w1 hH
  refine gl_dn rfl ?_
  refine sw_region ?_
  refine gl_ops 4 [(12, .int .i64 part), (14, Pp xb 3)] (by kernel_rfl) ?_
  refine gl_st (st_storeK (v := .int .i64 part) 0 rfl rfl rfl hH rfl rfl rfl (by kernel_rfl) rfl (by simp) ?_)
  clear hH; intro w2 hH
  refine gl_done rfl ?_
  refine end0 rfl ?_
  exact ⟨rfl, hH.turned⟩
/-- What the document's disk owns. -/
def rdkO (xb : Nat) (rv : Value) (pw : Bool) (acts part : Int) (L : FV) : List Own := [rhdO xb rv pw acts part, lstO rv L, filRs L]
theorem filRs_rb {w w0 : World} {z : Zone} {F : List Nat} {os : List Own} (hH : Hp w0 w z F os) (k : Nat) {L : FV} (hk : os[k]? = some (filRs L)) {i : Nat} {f : Fil} {v : Value} (hq : L[i]? = some (f, v)) : RB w.cell? v f.b := by
  have h : ∀ o ∈ L.map filR, o.at w := hH.own _ (List.mem_of_getElem? hk)
  have h1 : (filR (f, v)).at w := h _ (List.mem_map.2 ⟨(f, v), List.mem_of_getElem? hq, rfl⟩)
  exact Row.of_own h1
theorem filRs_sl {w : World} {L : FV} (h : (filRs L).at w) : SlQ L := by
  intro q hq
  have h1 : (filR q).at w := h _ (List.mem_map.2 ⟨q, hq, rfl⟩)
  obtain ⟨A, c, e, _⟩ := (Row.of_own h1).form
  exact ⟨A, _, c, e⟩
theorem rdk_read {D : Dsk} {L : FV} (hF : L.map (·.1) = D.fs) {nm : List UInt8} (h : mayE D nm true = 0) : ∃ f fv, L[fndI L nm]? = some (f, fv) ∧ f.name = nm ∧ fndI L nm < L.length ∧ oldF D.fs nm = f := by
  have hlt : fndI L nm < L.length := by
    refine Classical.byContradiction fun hn => ?_
    rw [rmay_eq hF] at h
    split at h
    · omega
    split at h
    · omega
    rw [if_pos ⟨rfl, hn⟩] at h
    omega
  obtain ⟨⟨f, fv⟩, h1, h2⟩ := fnd_at hlt
  refine ⟨f, fv, h1, h2, hlt, ?_⟩
  unfold oldF
  rw [← fnd_get hF, h1]; rfl

theorem RDRead_ct (xb : Nat) (rv : Value) (D : Dsk) (part : Int) (L : FV) (nm : List UInt8) (w : World) (hM : Mine w [.grp (rdkO xb rv D.off (actsI D.ar) part L)]) (hF : L.map (·.1) = D.fs) (hs : nm.length ≤ 140737488355328) (hL : ∀ f ∈ D.fs, f.b.length ≤ 140737488355328) :
    Fun Tryz.prog 47 [.pointer (some ⟨xb, 0, none⟩), .string (bs nm)] w fun v w' => ∃ v1, v = .tuple #[v1, .int .i64 (((readD D nm).2 : Nat) : Int)] ∧ Turn w w' [.grp (rdkO xb rv D.off (actsI D.ar) part L)] [.grp (rdkO xb rv D.off (actsI D.ar) part L), .row v1 5 1 (readD D nm).1.length (bv (readD D nm).1)] := by
  obtain ⟨Ar, cr, rfl, hcr1, hcr2⟩ := (Row.of_own (hM.1 _ (List.mem_singleton.2 rfl) (lstO rv L) (by simp [rdkO]))).form
  have hcr3 := hcr2
  simp only [maxLen] at hcr3
  have hV : SlQ L := filRs_sl (hM.1 _ (List.mem_singleton.2 rfl) (filRs L) (by simp [rdkO]))
  refine fun_of_sw Tryz.func47 rfl 25 rfl rfl ?_
  have hH : Hp w w (off w (blksOf [.grp (rdkO xb (.slice Ar L.length cr) D.off (actsI D.ar) part L)])) (blksOf [.grp (rdkO xb (.slice Ar L.length cr) D.off (actsI D.ar) part L)]) (rdkO xb (.slice Ar L.length cr) D.off (actsI D.ar) part L ++ []) := (Hp.start_mine hM).open_
  replace hH : Hp w w _ _ [.blk xb 55 [.slice Ar L.length cr, .bool D.off, .int .i64 (actsI D.ar), .int .i64 part], .row (.slice Ar L.length cr) 93 3 L.length (rowC filC L), filRs L] := hH
  refine sw_sr ?_
  refine gl_ops 2 [(0, Pp xb 0), (1, .string (bs nm))] (by kernel_rfl) ?_
  refine gl_dn rfl ?_
  refine sw_sr ?_
  refine gl_ops 2 [(0, Pp xb 0), (1, .string (bs nm)), (7, Pp xb 0), (8, .string (bs nm))] (by kernel_rfl) ?_
  refine gl_st (st_call rfl rfl rfl (by kernel_rfl) rfl (RMay18_ct xb _ L D nm true _ (hH.blk_cell 0 rfl rfl) (hH.blk_cell 0 rfl rfl) (hH.row_reads 1 rfl) hF hs) ?_)
  rintro _ w1 ⟨rfl, hF2⟩
  replace hH := hH.call hF2; clear hF2
  refine gl_ops 1 [(0, Pp xb 0), (1, .string (bs nm)), (6, Ni (mayE D nm true))] (by kernel_rfl) ?_
  refine gl_dn rfl ?_
  refine sw_seq ?_
  refine sw_sr ?_
  refine gl_ops 2 [(0, Pp xb 0), (1, .string (bs nm)), (6, Ni (mayE D nm true)), (11, .bool (((mayE D nm true : Nat) : Int) != (0 : Int)))] (by kernel_rfl) ?_
  refine gl_dn rfl ?_
  refine sw_cond rfl rfl (fun hc1 => ?_) (fun hc1 => ?_)
  ·
    try simp only [bne_iff_ne, ne_eq] at hc1
    refine sw_sr ?_
    refine gl_ops 3 [(4, .slice none 0 0), (5, Ni (mayE D nm true))] (by kernel_rfl) ?_
    refine gl_dn rfl ?_
    refine sw_ret ?_
    refine thR ?_
    refine ret2 rfl rfl rfl  ?_
    replace hH := hH.nilRow 5 1
    have hr : readD D nm = ([], mayE D nm true) := by unfold readD; rw [if_pos (by omega)]
    replace hH := (hH.sublist (.cons_cons _ (.cons_cons _ (.cons_cons _ (.cons_cons _ (List.nil_sublist _))))))
    replace hH : Hp w w1 _ _ [.blk xb 55 [.slice Ar L.length cr, .bool D.off, .int .i64 (actsI D.ar), .int .i64 part], .row (.slice Ar L.length cr) 93 3 L.length (rowC filC L), filRs L, .row (.slice none 0 0) 5 1 0 []] := hH
    replace hH : Hp w w1 _ _ (rdkO xb (.slice Ar L.length cr) D.off (actsI D.ar) part L ++ [.row (.slice none 0 0) 5 1 0 []]) := hH
    exact ⟨.slice none 0 0, by rw [hr], by rw [hr]; exact hH.close.turned⟩
  try simp only [bne_eq_false_iff_eq] at hc1
  refine sw_skip ?_
  refine sw_next ?_
  refine sw_seq ?_
  have hm0 : mayE D nm true = 0 := by omega
  obtain ⟨f, fv, hq, hqn, hlt, hold⟩ := rdk_read hF hm0
  obtain ⟨Af, cf, rfl, hf1, hf2⟩ := (filRs_rb hH 2 rfl hq).row.form
  have hbM := hL f (by rw [← hF]; exact List.mem_map.2 ⟨_, List.mem_of_getElem? hq, rfl⟩)
  refine sw_draw (by kernel_rfl) (fun w_ => Hp w w_ (off w (blksOf [.grp (rdkO xb (.slice Ar L.length cr) D.off (actsI D.ar) part L)])) (blksOf [.grp (rdkO xb (.slice Ar L.length cr) D.off (actsI D.ar) part L)]) [.blk xb 55 [.slice Ar L.length cr, .bool D.off, .int .i64 (actsI D.ar), .int .i64 part], .row (.slice Ar L.length cr) 93 3 L.length (rowC filC L), filRs L]) ?_
  replace hH := hH.drew
  generalize { w1 with drawn := w1.drawn + 1 } = w3 at hH ⊢
  have hS9 := hH.sublist (.cons_cons _ (.cons_cons _ (.cons_cons _ (List.nil_sublist _))))
  refine gd_pure 1 rfl (by kernel_rfl) (PQ.th PQ.body) hS9 rfl rfl (Pp xb 0) (by kernel_rfl) ?_
  refine gd_pure 2 rfl (by kernel_rfl) (PQ.th PQ.body) hS9 rfl rfl (Pp xb 0) (by kernel_rfl) ?_
  refine gd_pure 3 rfl (by kernel_rfl) (PQ.th PQ.body) hS9 rfl rfl (Pp xb 0) (by kernel_rfl) ?_
  refine gd_keep [(0, Pp xb 0), (1, .string (bs nm)), (16, Pp xb 0)] (by kernel_rfl) ?_
  refine gd_q 4 rfl (by kernel_rfl) (PQ.th PQ.body) hS9 rfl rfl (fun w_ hS => (rd_loadK 0 (by kernel_rfl) hS rfl rfl rfl)) ?_
  refine gd_pure 5 rfl (by kernel_rfl) (PQ.th PQ.body) hS9 rfl rfl (Pp xb 0) (by kernel_rfl) ?_
  refine gd_pure 6 rfl (by kernel_rfl) (PQ.th PQ.body) hS9 rfl rfl (.string (bs nm)) (by kernel_rfl) ?_
  refine gd_keep [(17, .slice Ar L.length cr), (18, Pp xb 0), (19, .string (bs nm))] (by kernel_rfl) ?_
  refine gd_st2 0 7 (by kernel_rfl) ?_ ?_
  ·
    refine st_buildS0 (e := 5) (m := 1) rfl rfl rfl (by kernel_rfl) (by kernel_rfl) hH ?_
    clear hH; intro b4 w5 hH
    replace hS9 := hH.sublist (.cons_cons _ (.cons_cons _ (.cons_cons _ (List.nil_sublist _))))
    refine ⟨hS9, ?_⟩
    refine gd_keep [(13, .slice (some ⟨b4, 0, none⟩) 0 0), (17, .slice Ar L.length cr), (18, Pp xb 0), (19, .string (bs nm))] (by kernel_rfl) ?_
    refine gd_st 7 (by kernel_rfl) (st_call rfl rfl rfl (by kernel_rfl) rfl (RFind_ct xb _ L nm _ (hH.blk_cell 0 rfl rfl) (hH.row_reads 1 rfl)) ?_)
    rintro _ w6 ⟨rfl, hF7⟩
    replace hH := hH.call hF7; clear hF7
    replace hS9 := hH.sublist (.cons_cons _ (.cons_cons _ (.cons_cons _ (List.nil_sublist _))))
    refine ⟨hS9, ?_⟩
    refine gd_cv 20 (Ni (fndI L nm)) (by unfold fndZ; rw [if_pos hlt]) rfl ?_
    refine gd_keep [(13, .slice (some ⟨b4, 0, none⟩) 0 0), (17, .slice Ar L.length cr), (20, Ni (fndI L nm))] (by kernel_rfl) ?_
    obtain ⟨b9, hb8, hi10⟩ := hH.row_idx 1 rfl (fndI L nm) (by omega)
    refine gd_q 8 rfl (by kernel_rfl) (PQ.th PQ.body) hS9 rfl rfl (fun w_ hS => (rd_idx (e := 93) (m := 3) (by kernel_rfl) (by kernel_rfl) rfl rfl hi10)) ?_
    refine gd_pure 9 rfl (by kernel_rfl) (PQ.th PQ.body) hS9 rfl rfl (Pp b9 ((fndI L nm) * 3 + 1)) (by kernel_rfl) ?_
    refine gd_q 10 rfl (by kernel_rfl) (PQ.th PQ.body) hS9 rfl rfl (fun w_ hS => (rd_loadO 1 (by kernel_rfl) hS rfl rfl hb8 (rowC_at filC_len hq 1 (by decide) rfl))) ?_
    refine gd_keep [(13, .slice (some ⟨b4, 0, none⟩) 0 0), (23, .slice Af f.b.length cf)] (by kernel_rfl) ?_
    refine gd_st 11 (by kernel_rfl) (st_appH (e := 5) (zv := .int .u8 0) (m := 1) (bytes := 1) 3 rfl rfl rfl (by kernel_rfl) (by kernel_rfl) rfl (by decide) hH rfl rfl rfl (filRs_rb hH 2 rfl hq).row (bv_one _) (by unfold maxLen; omega) (by omega) ?_)
    clear hH; intro v11 w12 hH
    replace hH := hH.row_eq 3 (l' := f.b.length) (xs' := bv f.b) rfl (Nat.zero_add _) (List.nil_append _)
    obtain ⟨A13, c14, rfl, hl15, hm16⟩ := hH.row_form 3 rfl
    replace hS9 := hH.sublist (.cons_cons _ (.cons_cons _ (.cons_cons _ (List.nil_sublist _))))
    refine ⟨hS9, ?_⟩
    refine gd_keep [(24, .slice A13 f.b.length c14)] (by kernel_rfl) ?_
    refine gd_pure 12 rfl (by kernel_rfl) (PQ.th PQ.body) hS9 rfl rfl (.slice A13 f.b.length c14) (by kernel_rfl) ?_
    refine gd_pure 13 rfl (by kernel_rfl) (PQ.th PQ.body) hS9 rfl rfl (.int .i64 0) (by kernel_rfl) ?_
    refine gd_done (by kernel_rfl) ?_
    refine at_sub [(4, .slice A13 f.b.length c14), (5, .int .i64 0)] (Sub.of_eq (by kernel_rfl)) ?_
    refine sw_next ?_
    refine sw_ret ?_
    refine ret2 rfl rfl rfl  ?_
    have hr : readD D nm = (f.b, 0) := by unfold readD; rw [if_neg (by rw [hm0]; simp), hold]
    replace hH := (hH.sublist (.cons_cons _ (.cons_cons _ (.cons_cons _ (.cons_cons _ (List.nil_sublist _))))))
    replace hH : Hp w w12 _ _ [.blk xb 55 [.slice Ar L.length cr, .bool D.off, .int .i64 (actsI D.ar), .int .i64 part], .row (.slice Ar L.length cr) 93 3 L.length (rowC filC L), filRs L, .row (.slice A13 f.b.length c14) 5 1 f.b.length (bv f.b)] := hH
    replace hH : Hp w w12 _ _ (rdkO xb (.slice Ar L.length cr) D.off (actsI D.ar) part L ++ [.row (.slice A13 f.b.length c14) 5 1 f.b.length (bv f.b)]) := hH
    exact ⟨.slice A13 f.b.length c14, by rw [hr]; rfl, by rw [hr]; exact hH.close.turned⟩
  ·
    refine st_call rfl rfl rfl (by kernel_rfl) rfl (RFind_ct xb _ L nm _ (hH.blk_cell 0 rfl rfl) (hH.row_reads 1 rfl)) ?_
    rintro _ w17 ⟨rfl, hF18⟩
    replace hH := hH.call hF18; clear hF18
    replace hS9 := hH.sublist (.cons_cons _ (.cons_cons _ (.cons_cons _ (List.nil_sublist _))))
    refine ⟨hS9, ?_⟩
    refine gd_cv 20 (Ni (fndI L nm)) (by unfold fndZ; rw [if_pos hlt]) rfl ?_
    refine gd_keep [(17, .slice Ar L.length cr), (20, Ni (fndI L nm))] (by kernel_rfl) ?_
    obtain ⟨b20, hb19, hi21⟩ := hH.row_idx 1 rfl (fndI L nm) (by omega)
    refine gd_q 8 rfl (by kernel_rfl) (PQ.th PQ.body) hS9 rfl rfl (fun w_ hS => (rd_idx (e := 93) (m := 3) (by kernel_rfl) (by kernel_rfl) rfl rfl hi21)) ?_
    refine gd_pure 9 rfl (by kernel_rfl) (PQ.th PQ.body) hS9 rfl rfl (Pp b20 ((fndI L nm) * 3 + 1)) (by kernel_rfl) ?_
    refine gd_q 10 rfl (by kernel_rfl) (PQ.th PQ.body) hS9 rfl rfl (fun w_ hS => (rd_loadO 1 (by kernel_rfl) hS rfl rfl hb19 (rowC_at filC_len hq 1 (by decide) rfl))) ?_
    refine gd_keep [(23, .slice Af f.b.length cf)] (by kernel_rfl) ?_
    refine gd_st 0 (by kernel_rfl) (st_buildS0 (e := 5) (m := 1) rfl rfl rfl (by kernel_rfl) (by kernel_rfl) hH ?_)
    clear hH; intro b22 w23 hH
    replace hS9 := hH.sublist (.cons_cons _ (.cons_cons _ (.cons_cons _ (List.nil_sublist _))))
    refine ⟨hS9, ?_⟩
    refine gd_keep [(13, .slice (some ⟨b22, 0, none⟩) 0 0), (23, .slice Af f.b.length cf)] (by kernel_rfl) ?_
    refine gd_st 11 (by kernel_rfl) (st_appH (e := 5) (zv := .int .u8 0) (m := 1) (bytes := 1) 3 rfl rfl rfl (by kernel_rfl) (by kernel_rfl) rfl (by decide) hH rfl rfl rfl (filRs_rb hH 2 rfl hq).row (bv_one _) (by unfold maxLen; omega) (by omega) ?_)
    clear hH; intro v24 w25 hH
    replace hH := hH.row_eq 3 (l' := f.b.length) (xs' := bv f.b) rfl (Nat.zero_add _) (List.nil_append _)
    obtain ⟨A26, c27, rfl, hl28, hm29⟩ := hH.row_form 3 rfl
    replace hS9 := hH.sublist (.cons_cons _ (.cons_cons _ (.cons_cons _ (List.nil_sublist _))))
    refine ⟨hS9, ?_⟩
    refine gd_keep [(24, .slice A26 f.b.length c27)] (by kernel_rfl) ?_
    refine gd_pure 12 rfl (by kernel_rfl) (PQ.th PQ.body) hS9 rfl rfl (.slice A26 f.b.length c27) (by kernel_rfl) ?_
    refine gd_pure 13 rfl (by kernel_rfl) (PQ.th PQ.body) hS9 rfl rfl (.int .i64 0) (by kernel_rfl) ?_
    refine gd_done (by kernel_rfl) ?_
    refine at_sub [(4, .slice A26 f.b.length c27), (5, .int .i64 0)] (Sub.of_eq (by kernel_rfl)) ?_
    refine sw_next ?_
    refine sw_ret ?_
    refine ret2 rfl rfl rfl  ?_
    have hr : readD D nm = (f.b, 0) := by unfold readD; rw [if_neg (by rw [hm0]; simp), hold]
    replace hH := (hH.sublist (.cons_cons _ (.cons_cons _ (.cons_cons _ (.cons_cons _ (List.nil_sublist _))))))
    replace hH : Hp w w25 _ _ [.blk xb 55 [.slice Ar L.length cr, .bool D.off, .int .i64 (actsI D.ar), .int .i64 part], .row (.slice Ar L.length cr) 93 3 L.length (rowC filC L), filRs L, .row (.slice A26 f.b.length c27) 5 1 f.b.length (bv f.b)] := hH
    replace hH : Hp w w25 _ _ (rdkO xb (.slice Ar L.length cr) D.off (actsI D.ar) part L ++ [.row (.slice A26 f.b.length c27) 5 1 f.b.length (bv f.b)]) := hH
    exact ⟨.slice A26 f.b.length c27, by rw [hr]; rfl, by rw [hr]; exact hH.close.turned⟩
end Go.Proofs.YtjcchjgkkplamaaGreatDoor
