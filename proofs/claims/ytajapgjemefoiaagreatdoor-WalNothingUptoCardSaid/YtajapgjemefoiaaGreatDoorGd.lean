/- Gd: several texts in one. -/
import Derived.Test.YtajapgjemefoiaaGreatDoorGc
import Derived.Test.YtajapgjemefoiaaGreatDoorGb
import Derived.Lib.ItoaNum
import Derived.Test.YtajapgjemefoiaaGreatDoorShelf
/- Layer 18 (disk), the program's: Files, Start, Arm, Down, New: what they answer. -/
set_option maxRecDepth 100000
set_option maxHeartbeats 2000000
set_option linter.unusedVariables false
set_option linter.unusedSimpArgs false
namespace Go.Proofs.YtajapgjemefoiaaGreatDoor
open Go.RowKit Go.SW
def filC (q : Fil × Value) : List Value := [.string (bs q.1.name), q.2, .int .i64 ((q.1.sure : Nat) : Int)]
theorem filC_len (q : Fil × Value) : (filC q).length = 3 := rfl
def filR (q : Fil × Value) : Own := .row q.2 5 1 q.1.b.length (bv q.1.b)
def filRs (qs : List (Fil × Value)) : Own := .grp (qs.map filR)
theorem filC_snoc (qs : List (Fil × Value)) (q : Fil × Value) : rowC filC qs ++ filC q = rowC filC (qs ++ [q]) := by simp [rowC]
theorem pe_at {es : List PE} {F : List Fil} (hR : Rep es F) {i : Nat} {f : Fil} (h : F[i]? = some f) : ∃ fb fv, es[ixE es f.name]? = some ⟨f.name, fb, fv, f.b, f.sure⟩ ∧ fV es f.name = .pointer (some ⟨fb, 0, none⟩) ∧ ixE es f.name < es.length := by
  have h1 := rep_get hR f.name
  rw [(getF_some hR.srt).2 ⟨List.mem_of_getElem? h, rfl⟩] at h1
  obtain ⟨⟨nm, fb, fv, b, sr⟩, h2, h3⟩ := Option.map_eq_some_iff.1 h1
  subst h3
  exact ⟨fb, fv, h2, by unfold fV; rw [h2], (List.getElem?_eq_some_iff.1 h2).1⟩
def partF (F : List Fil) (ks : List Int) (i : Nat) : List Fil := F.mapIdx fun j f => if j < i then startF1 f j ks else f
theorem partF_zero (F : List Fil) (ks : List Int) : partF F ks 0 = F := by
  unfold partF
  apply List.ext_getElem?
  intro j
  rw [List.getElem?_mapIdx]; cases F[j]? <;> simp
theorem partF_all {F : List Fil} {ks : List Int} {i : Nat} (hi : F.length ≤ i) : partF F ks i = startF F ks := by
  unfold partF startF
  apply List.ext_getElem?
  intro j
  rw [List.getElem?_mapIdx, List.getElem?_mapIdx]
  cases hj : F[j]? with
  | none => rfl
  | some f =>
    have := (List.getElem?_eq_some_iff.1 hj).1
    simp only [Option.map_some]; rw [if_pos (by omega)]
theorem partF_at {F : List Fil} {ks : List Int} {i : Nat} {f : Fil} (h : F[i]? = some f) : (partF F ks i)[i]? = some f := by
  unfold partF
  rw [List.getElem?_mapIdx, h]; simp
theorem partF_next {F : List Fil} {ks : List Int} {i : Nat} {f : Fil} (h : F[i]? = some f) : (partF F ks i).set i (startF1 f i ks) = partF F ks (i + 1) := by
  unfold partF
  apply List.ext_getElem?
  intro j
  rw [List.getElem?_set, List.getElem?_mapIdx, List.getElem?_mapIdx]
  by_cases hij : i = j
  · subst hij
    have := (List.getElem?_eq_some_iff.1 h).1
    rw [if_pos rfl, if_pos (by simpa using this), h]; simp
  · rw [if_neg hij]
    cases F[j]? with
    | none => rfl
    | some g =>
      simp only [Option.map_some]
      by_cases h1 : j < i
      · rw [if_pos h1, if_pos (by omega)]
      · rw [if_neg h1, if_neg (by omega)]
theorem partF_srt {F : List Fil} (h : Srt F) (ks : List Int) (i : Nat) : Srt (partF F ks i) := by
  unfold Srt partF
  rw [List.pairwise_iff_getElem]
  intro a b ha hb hab
  have := List.pairwise_iff_getElem.1 h a b (by simpa using ha) (by simpa using hb) hab
  simp only [List.getElem_mapIdx]
  split <;> split <;> simpa [startF1] using this
theorem setF_at {F : List Fil} (h : Srt F) {i : Nat} {f f' : Fil} (hi : F[i]? = some f) (hn : f'.name = f.name) (hs : Srt (F.set i f')) : setF F f' = F.set i f' := by
  refine srt_eq (srt_set h f') hs (perm_of_mem (srt_nodup (srt_set h f')) (srt_nodup hs) fun g => ?_)
  have hil := (List.getElem?_eq_some_iff.1 hi).1
  rw [mem_set]
  constructor
  · rintro (rfl | ⟨h1, h2⟩)
    · exact List.mem_of_getElem? (i := i) (by rw [List.getElem?_set, if_pos rfl, if_pos hil])
    · obtain ⟨j, hj⟩ := List.getElem?_of_mem h1
      have hij : i ≠ j := by
        rintro rfl
        rw [hi] at hj
        cases hj
        exact h2 hn.symm
      exact List.mem_of_getElem? (i := j) (by rw [List.getElem?_set, if_neg hij]; exact hj)
  · intro hg
    obtain ⟨j, hj⟩ := List.getElem?_of_mem hg
    rw [List.getElem?_set] at hj
    by_cases hij : i = j
    · rw [if_pos hij, if_pos (hij ▸ hil)] at hj
      cases hj
      exact .inl rfl
    · rw [if_neg hij] at hj
      refine .inr ⟨List.mem_of_getElem? hj, fun e => ?_⟩
      have hnd := srt_nodup h
      have h4 : (F.map (·.name))[i]? = (F.map (·.name))[j]? := by rw [List.getElem?_map, List.getElem?_map, hi, hj]; simp [e, hn]
      exact hij ((List.getElem?_inj (by simpa using hil) hnd).1 h4)
theorem part_rep {es : List PE} {F : List Fil} {ks : List Int} {i : Nat} {f : Fil} (hS : Srt F) (hR : Rep es (partF F ks i)) (hi : F[i]? = some f) {k : Nat} {e : PE} (he : es[k]? = some e) (e' : PE) (hn : e'.name = e.name) (hf : e'.fil = startF1 f i ks) : Rep (es.set k e') (partF F ks (i + 1)) := by
  have h1 := rep_set hR he e' hn
  have h2 : (partF F ks i).set i (startF1 f i ks) = partF F ks (i + 1) := partF_next hi
  rw [hf, setF_at (f' := startF1 f i ks) hR.srt (partF_at hi) rfl (by rw [h2]; exact partF_srt hS ks _), h2] at h1
  exact h1
theorem skeys_le {es : List PE} {F : List Fil} {M : Nat} (hR : Rep es F) (hG : Good F M) : ∀ p ∈ kvE es, p.1.length ≤ maxLen := by
  intro p hp
  obtain ⟨e, he, rfl⟩ := List.mem_map.1 hp
  have := hG.nm _ (hR.perm.mem_iff.1 (List.mem_map.2 ⟨e, he, rfl⟩))
  have h2 : e.fil.name = e.name := rfl
  rw [h2] at this
  simp only [maxLen]; omega
theorem kvE_names (es : List PE) : (kvE es).map (·.1) = es.map (·.name) := by simp [kvE]
theorem kvE_len {es : List PE} {F : List Fil} (hR : Rep es F) : (kvE es).length = F.length := by rw [← hR.perm.length_eq]; simp [kvE]
def nmC (F : List Fil) : List Value := F.map fun f => .string (bs f.name)
theorem nmC_at {F : List Fil} {i : Nat} {f : Fil} (h : F[i]? = some f) : (nmC F)[i * 1 + 0]? = some (.string (bs f.name)) := by unfold nmC; rw [Nat.mul_one, Nat.add_zero, List.getElem?_map, h]; rfl
theorem keys_row {es : List PE} {F : List Fil} (hR : Rep es F) {ss : List (List UInt8)} (hs : ss.Perm ((kvE es).map (·.1))) : ss.length = F.length ∧ ((ss.mergeSort fun x y => decide (x ≤ y)).map fun s => Value.string (bs s)) = nmC F := by
  rw [kvE_names] at hs
  refine ⟨?_, ?_⟩
  · have h1 := hs.length_eq
    have h2 := hR.perm.length_eq
    simp only [List.length_map] at h1 h2
    omega
  · rw [rep_keys hR hs, List.map_map]; rfl
theorem arOk_arm (a p : Int) (h : a ≤ 9223372036854775807) (D : Dsk) : ArOk (armD D a p).ar := by
  intro b q e
  unfold armD at e
  split at e
  · simp only [Option.some.injEq, Prod.mk.injEq] at e; omega
  · cases e

theorem Down_ct (db mb ab : Nat) (D : Dsk) (es : List PE) (w : World) (hM : Mine w (ownD db mb ab D es)) :
    Fun Tryz.prog 39 [.pointer (some ⟨db, 0, none⟩)] w fun v w' => v = .bool D.off ∧ Turn w w' (ownD db mb ab D es) (ownD db mb ab D es) := by
 refine fun_of_sw Tryz.func39 rfl 7 rfl rfl ?_
 have hH : Hp w w (off w (blksOf (ownD db mb ab D es))) (blksOf (ownD db mb ab D es)) (dskO db mb ab D es ++ []) := (Hp.start_mine hM).open_
 replace hH : Hp w w _ _ [.blk db 70 [.map (some mb), .bool D.off, arV D.ar ab], .smap mb (kvE es), filsO es, .grp (armO D.ar ab)] := hH
 refine sw_sr ?_
 refine glo 1 [(0, Pp db 0)] ?_
 refine gl_dn rfl ?_
 refine sw_sr ?_
 refine glo 3 [(5, Pp db 1)] ?_
 refine gl_q rfl rfl rfl (rd_loadK 0 (by kernel_rfl) hH rfl rfl rfl) ?_
 refine glo 1 [(2, .bool D.off)] ?_
 refine gl_dn rfl ?_
 refine sw_ret ?_
 refine ret1 rfl rfl  ?_
 replace hH : Hp w w _ _ [_, _, _, _] := (hH.sublist (slk (slk (slk (slk sln)))))
 exact ⟨rfl, (hH.close (r := [])).turned⟩
theorem Arm_ct (db mb ab : Nat) (D : Dsk) (es : List PE) (acts part : Int) (w : World) (hM : Mine w (ownD db mb ab D es)) :
    Fun Tryz.prog 24 [.pointer (some ⟨db, 0, none⟩), .int .i64 acts, .int .i64 part] w fun v w' => ∃ ab', v = .tuple #[] ∧ Turn w w' (ownD db mb ab D es) [.grp (dskO db mb ab' (armD D acts part) es)] := by
 refine fun_of_sw Tryz.func24 rfl 18 rfl rfl ?_
 have hH : Hp w w (off w (blksOf (ownD db mb ab D es))) (blksOf (ownD db mb ab D es)) (dskO db mb ab D es ++ []) := (Hp.start_mine hM).open_
 replace hH : Hp w w _ _ [.blk db 70 [.map (some mb), .bool D.off, arV D.ar ab], .smap mb (kvE es), filsO es, .grp (armO D.ar ab)] := hH
 refine sw_sr ?_
 refine glo 3 [(0, Pp db 0), (1, .int .i64 acts), (2, .int .i64 part), (8, Pp db 2)] ?_
 refine gl_st (st_storeK (v := .pointer none) 0 rfl rfl rfl hH rfl rfl rfl (by kernel_rfl) rfl (by simp) ?_)
 clear hH; intro w1 hH
 refine gl_dn rfl ?_
 refine sw_sr ?_
 refine glo 2 [(0, Pp db 0), (1, .int .i64 acts), (2, .int .i64 part), (10, .bool (decide ((acts : Int) ≥ (0 : Int))))] ?_
 refine gl_dn rfl ?_
 refine sw_cond rfl rfl (fun hc1 => ?_) (fun hc1 => ?_)
 ·
  try simp only [decide_eq_true_eq] at hc1
  obtain ⟨k, rfl⟩ : ∃ k : Nat, acts = k := ⟨acts.toNat, by omega⟩
  refine sw_region ?_
  refine glo 4 [(11, Pp db 0), (14, .agg #[Ni k, .int .i64 part])] ?_
  refine gl_st (st_boxH (cs := [Ni k, .int .i64 part]) rfl rfl rfl rfl hH ?_)
  clear hH; intro b2 w3 hH
  refine glo 2 [(15, Pp b2 0), (17, Pp db 2)] ?_
  refine gl_st (st_storeK (v := Pp b2 0) 0 rfl rfl rfl hH rfl rfl rfl (by kernel_rfl) rfl (by simp) ?_)
  clear hH; intro w4 hH
  refine gl_done rfl ?_
  refine end0 rfl ?_
  have hr : armD D ((k : Nat) : Int) part = { D with ar := some (k, part) } := by unfold armD; rw [if_pos (by omega), Int.toNat_natCast]
  replace hH := hH.fr5.fr4.fr4.fr4
  replace hH : Hp w w4 _ _ [_, _, _, _] := (hH.sublist (slk (slk (slk (slk sln)))))
  have h2 : Hp w w4 _ _ (armO (some (k, part)) b2 ++ [.blk db 70 [.map (some mb), .bool D.off, Pp b2 0], .smap mb (kvE es), filsO es]) := (hH.pick [3, 0, 1, 2] (by kernel_rfl) rfl)
  have h3 := h2.close.pick [1, 2, 3, 0] (by kernel_rfl) rfl
  have h4 : Hp w w4 _ _ (dskO db mb b2 { D with ar := some (k, part) } es ++ []) := h3
  exact ⟨b2, rfl, by rw [hr]; exact h4.close.turned⟩
 try simp only [decide_eq_false_iff_not, Int.not_lt, Int.not_le] at hc1
 refine sw_skip ?_
 refine end0 rfl ?_
 have hr : armD D acts part = { D with ar := none } := by unfold armD; rw [if_neg (by omega)]
 replace hH : Hp w w1 _ _ [_, _, _] := (hH.sublist (slk (slk (slk sln))))
 have h3 := hH.nogrp
 have h4 : Hp w w1 _ _ (dskO db mb 0 { D with ar := none } es ++ []) := h3
 exact ⟨0, rfl, by rw [hr]; exact h4.close.turned⟩
theorem DNew_ct (w : World) : Fun Tryz.prog 8 [] w fun v w' => ∃ db mb, v = .pointer (some ⟨db, 0, none⟩) ∧ Fresh w w' [.grp (dskO db mb 0 ⟨[], false, none⟩ [])] := by
 refine fun_of_sw Tryz.func8 rfl 4 rfl rfl ?_
 have hH := Hp.start w
 refine sw_sr ?_
 refine glo 1 [] ?_
 refine gl_dn rfl ?_
 refine sw_sr ?_
 refine gl_st (st_makeSm rfl rfl rfl hH ?_)
 clear hH; intro m1 w2 hH
 refine glo 1 [(2, .agg #[.map (some m1), .bool false, .pointer none])] ?_
 refine gl_st (st_boxH (cs := [.map (some m1), .bool false, .pointer none]) rfl rfl rfl rfl hH ?_)
 clear hH; intro b3 w4 hH
 refine glo 1 [(0, Pp b3 0)] ?_
 refine gl_dn rfl ?_
 refine sw_ret ?_
 refine ret1 rfl rfl  ?_
 replace hH := hH.fr2
 have h3 := hH.nogrp.nogrp
 have h4 : Hp w w4 _ _ (dskO b3 m1 0 ⟨[], false, none⟩ [] ++ []) := h3
 exact ⟨_, _, rfl, h4.close.fresh⟩
theorem take_next {α : Type} {l : List α} {i : Nat} {f : α} (h : l[i]? = some f) : l.take i ++ [f] = l.take (i + 1) := by
  have hi := (List.getElem?_eq_some_iff.1 h)
  obtain ⟨h1, h2⟩ := hi
  rw [List.take_succ_eq_append_getElem h1, h2]

theorem Files_ct (db mb ab : Nat) (D : Dsk) (es : List PE) (M : Nat) (w : World) (hM : Mine w (ownD db mb ab D es)) (hR : Rep es D.fs) (hG : Good D.fs M) (hMM : M ≤ 140737488355328) (hN : D.fs.length ≤ 1000000) :
    Fun Tryz.prog 17 [.pointer (some ⟨db, 0, none⟩)] w fun v w' => ∃ v1 qs, v = v1 ∧ qs.map (·.1) = D.fs ∧ Turn w w' (ownD db mb ab D es) [.grp (dskO db mb ab D es), .row v1 83 3 qs.length (rowC filC qs), filRs qs] := by
 refine fun_of_sw Tryz.func17 rfl 40 rfl rfl ?_
 have hH : Hp w w (off w (blksOf (ownD db mb ab D es))) (blksOf (ownD db mb ab D es)) (dskO db mb ab D es ++ []) := (Hp.start_mine hM).open_
 replace hH : Hp w w _ _ [.blk db 70 [.map (some mb), .bool D.off, arV D.ar ab], .smap mb (kvE es), filsO es, .grp (armO D.ar ab)] := hH
 refine sw_sr ?_
 refine glo 1 [(0, Pp db 0)] ?_
 refine gl_dn rfl ?_
 refine sw_sr ?_
 refine glo 1 [(0, Pp db 0), (3, .slice none 0 0)] ?_
 refine gl_dn rfl ?_
 refine sw_seq ?_
 replace hH := (hH.nogrp).nilRow 83 3
 replace hH : Hp w w _ _ [.blk db 70 [.map (some mb), .bool D.off, arV D.ar ab], .smap mb (kvE es), filsO es, .grp (armO D.ar ab), filRs [], .row (.slice none 0 0) 83 3 0 []] := hH
 refine sw_sr ?_
 refine glo 3 [(0, Pp db 0), (3, .slice none 0 0), (9, Pp db 0)] ?_
 refine gl_q rfl rfl rfl (rd_loadK 0 (by kernel_rfl) hH rfl rfl rfl) ?_
 refine gl_st (st_call rfl rfl rfl (by kernel_rfl) rfl (MapsKeys_ct mb _) ?_)
 rintro _ w2 ⟨kb1, rfl, hF3⟩
 replace hH := hH.call hF3; clear hF3
 refine gl_st (st_call rfl rfl rfl (by kernel_rfl) rfl (SortedKeys_ct kb1 mb _ _ (hH.blk_cell 6 rfl rfl) (hH.own _ (List.mem_of_getElem? (i := 1) rfl)) (skeys_le hR hG) (by rw [kvE_len hR]; omega)) ?_)
 rintro _ w4 ⟨ss, kv, rfl, hperm, hF5⟩
 replace hH := hH.call hF5; clear hF5
 obtain ⟨hs1, hs2⟩ := keys_row hR hperm
 rw [hs1, hs2] at hH
 obtain ⟨A6, c7, rfl, hl8, hm9⟩ := hH.row_form 7 rfl
 refine gl_q rfl rfl rfl (rd_len (e := 9) (by kernel_rfl) rfl) ?_
 refine glo 1 [(0, Pp db 0), (3, .slice none 0 0), (12, .slice A6 D.fs.length c7), (13, Ni D.fs.length), (14, .int .i64 0)] ?_
 refine gl_dn rfl ?_
 refine sw_block ?_
 replace hH := hH.fr6.fr6.fr8.fr7.fr7.fr7.fr7
 replace hH : Hp w w4 _ _ [_, _, _, _, _, _, _] := (hH.sublist (slk (slk (slk (slk (slk (slk (slk sln))))))))
 refine sw_loop (γ := Nat × List (Fil × Value) × Option Addr × Nat) (fun (i, qs, Ao, co) => [(0, Pp db 0), (3, .slice Ao qs.length co), (12, .slice A6 D.fs.length c7), (13, Ni D.fs.length), (14, Ni i)]) (fun (i, qs, Ao, co) w_ => (i ≤ D.fs.length) ∧ (qs.map (·.1) = D.fs.take i) ∧ Hp w w_ (off w (blksOf (ownD db mb ab D es))) (blksOf (ownD db mb ab D es)) [.blk db 70 [.map (some mb), .bool D.off, arV D.ar ab], .smap mb (kvE es), filsO es, .grp (armO D.ar ab), .row (.slice A6 D.fs.length c7) 9 1 D.fs.length (nmC D.fs), filRs qs, .row (.slice Ao qs.length co) 83 3 qs.length (rowC filC qs)]) (fun (i, qs, Ao, co) => D.fs.length - i) (0, [], none, 0) (Sub.of_eq (by kernel_rfl)) ?_ ?_
 · exact ⟨by omega, by simp, hH⟩
 clear hH
 rintro ⟨i, qs, Ao, co⟩ w10 ⟨hi, hqs, hH⟩
 have hql : qs.length = i := by have := congrArg List.length hqs; simp at this; omega
 refine swk [(0, Pp db 0), (3, .slice Ao qs.length co), (12, .slice A6 D.fs.length c7), (13, Ni D.fs.length), (14, Ni i)] ?_
 refine sw_sr ?_
 refine glo 1 [(0, Pp db 0), (3, .slice Ao qs.length co), (12, .slice A6 D.fs.length c7), (13, Ni D.fs.length), (14, Ni i), (15, .bool (decide (((i : Nat) : Int) < ((D.fs.length : Nat) : Int))))] ?_
 refine gl_dn rfl ?_
 refine sw_seq ?_
 refine sw_cond rfl rfl (fun hc1 => ?_) (fun hc1 => ?_)
 ·
  try simp only [decide_eq_true_eq] at hc1
  refine sw_skip ?_
  refine sw_next ?_
  refine sw_seq ?_
  refine sw_block ?_
  obtain ⟨f, hf⟩ : ∃ f, D.fs[i]? = some f := ⟨_, List.getElem?_eq_getElem (by omega)⟩
  refine sw_sr ?_
  obtain ⟨b12, hb11, hi13⟩ := hH.row_idx 4 rfl i (by omega)
  refine gl_q rfl rfl rfl (rd_idx (e := 9) (m := 1) (by kernel_rfl) (by kernel_rfl) rfl rfl hi13) ?_
  refine gl_q rfl rfl rfl (rd_loadO 4 (by kernel_rfl) hH rfl rfl hb11 (nmC_at hf)) ?_
  refine glo 1 [(0, Pp db 0), (3, .slice Ao qs.length co), (5, .string (bs f.name)), (12, .slice A6 D.fs.length c7), (13, Ni D.fs.length), (14, Ni i)] ?_
  refine gl_dn rfl ?_
  obtain ⟨fb, fv, he, hfv, hlt⟩ := pe_at hR hf
  obtain ⟨hbM, hsr, hnm⟩ := good_at hG hR he
  refine sw_sr ?_
  refine glo 3 [(0, Pp db 0), (3, .slice Ao qs.length co), (5, .string (bs f.name)), (12, .slice A6 D.fs.length c7), (13, Ni D.fs.length), (14, Ni i), (20, Pp db 0)] ?_
  refine gl_q rfl rfl rfl (rd_loadK 0 (by kernel_rfl) hH rfl rfl rfl) ?_
  refine glo 1 [(0, Pp db 0), (3, .slice Ao qs.length co), (5, .string (bs f.name)), (12, .slice A6 D.fs.length c7), (13, Ni D.fs.length), (14, Ni i), (21, .map (some mb)), (22, .string (bs f.name))] ?_
  refine gl_q rfl rfl rfl (rd_smget (kt := 9) (e := 73) (zv := .pointer none) 1 (by kernel_rfl) (by kernel_rfl) (by kernel_rfl) hH rfl rfl f.name rfl) ?_
  refine gl_cv 23 (Pp fb 0) ((fV_get _ _).trans hfv) rfl ?_
  refine glo 1 [(0, Pp db 0), (3, .slice Ao qs.length co), (5, .string (bs f.name)), (6, Pp fb 0), (12, .slice A6 D.fs.length c7), (13, Ni D.fs.length), (14, Ni i)] ?_
  refine gl_dn rfl ?_
  obtain ⟨Af, cf, rfl, hf1, hf2⟩ := (fil_rb hH 2 rfl he).row.form
  refine sw_draw (by kernel_rfl) (fun w_ => Hp w w_ (off w (blksOf (ownD db mb ab D es))) (blksOf (ownD db mb ab D es)) [.blk db 70 [.map (some mb), .bool D.off, arV D.ar ab], .smap mb (kvE es), filsO es, .grp (armO D.ar ab), .row (.slice A6 D.fs.length c7) 9 1 D.fs.length (nmC D.fs), filRs qs]) ?_
  replace hH := hH.drew
  generalize { w10 with drawn := w10.drawn + 1 } = w14 at hH ⊢
  have hS9 := hH.sublist (slk (slk (slk (slk (slk (slk sln))))))
  refine gdo 5 [0,1,2,3,4] [(0, Pp db 0), (3, .slice Ao qs.length co), (6, Pp fb 0), (12, .slice A6 D.fs.length c7), (13, Ni D.fs.length), (14, Ni i), (24, .slice Ao qs.length co), (25, .string (bs f.name)), (28, Pp fb 0)] hS9 (PQ.bk (PQ.th (PQ.th (PQ.bk (PQ.th PQ.body))))) ?_
  refine gdq 5 rfl (fun w_ hS => (rd_load (by kernel_rfl) rfl (fil_cell0 hS 2 rfl he))) hS9 (PQ.bk (PQ.th (PQ.th (PQ.bk (PQ.th PQ.body))))) ?_
  refine gdk [(0, Pp db 0), (3, .slice Ao qs.length co), (6, Pp fb 0), (12, .slice A6 D.fs.length c7), (13, Ni D.fs.length), (14, Ni i), (24, .slice Ao qs.length co), (25, .string (bs f.name)), (29, .slice Af f.b.length cf)] ?_
  refine gdo 3 [7,8,9] [(0, Pp db 0), (3, .slice Ao qs.length co), (12, .slice A6 D.fs.length c7), (13, Ni D.fs.length), (14, Ni i), (24, .slice Ao qs.length co), (25, .string (bs f.name)), (29, .slice Af f.b.length cf), (33, Pp fb 1)] hS9 (PQ.bk (PQ.th (PQ.th (PQ.bk (PQ.th PQ.body))))) ?_
  refine gdq 10 rfl (fun w_ hS => (rd_load (by kernel_rfl) rfl (fil_cell1 hS 2 rfl he))) hS9 (PQ.bk (PQ.th (PQ.th (PQ.bk (PQ.th PQ.body))))) ?_
  refine gdk [(0, Pp db 0), (3, .slice Ao qs.length co), (12, .slice A6 D.fs.length c7), (13, Ni D.fs.length), (14, Ni i), (24, .slice Ao qs.length co), (25, .string (bs f.name)), (29, .slice Af f.b.length cf), (34, Ni f.sure)] ?_
  refine gds 6 (st_call rfl rfl rfl (by kernel_rfl) rfl (SClone_ct _ f.b _ (fil_rb hH 2 rfl he) (by omega)) ?_)
  rintro _ w17 ⟨v15, rfl, hF18⟩
  replace hH := hH.call hF18; clear hF18
  obtain ⟨A19, c20, rfl, hl21, hm22⟩ := hH.row_form 7 rfl
  replace hS9 := hH.sublist (slk (slk (slk (slk (slk (slk sln))))))
  refine ⟨hS9, ?_⟩
  refine gdo 1 [11] [(0, Pp db 0), (3, .slice Ao qs.length co), (12, .slice A6 D.fs.length c7), (13, Ni D.fs.length), (14, Ni i), (24, .slice Ao qs.length co), (35, .agg #[.string (bs f.name), .slice A19 f.b.length c20, Ni f.sure])] hS9 (PQ.bk (PQ.th (PQ.th (PQ.bk (PQ.th PQ.body))))) ?_
  refine gds 12 (st_buildS (e := 83) (zv := .agg #[.string (bs []), .slice none 0 0, .int .i64 0]) (m := 3) (bytes := 48) rfl rfl rfl (by kernel_rfl) (by kernel_rfl) rfl (cs := [.string (bs f.name), .slice A19 f.b.length c20, Ni f.sure]) (by kernel_rfl) rfl hH ?_)
  clear hH; intro b23 w24 hH
  replace hH : Hp w w24 _ _ [_, _, _, _, _, _, _, _, _] := hH
  replace hS9 := hH.sublist (slk (slk (slk (slk (slk (slk sln))))))
  refine ⟨hS9, ?_⟩
  refine gds 13 (st_appH (e := 83) (zv := .agg #[.string (bs []), .slice none 0 0, .int .i64 0]) (m := 3) (bytes := 48) 6 rfl rfl rfl (by kernel_rfl) (by kernel_rfl) rfl (by decide) hH rfl rfl rfl (hH.row_reads 8 rfl) (by simp [Value.oneCell']) (by unfold maxLen; omega) (by omega) ?_)
  clear hH; intro v25 w26 hH
  replace hH := hH.row_eq 6 (l' := (qs ++ [(f, (Value.slice A19 f.b.length c20))]).length) (xs' := rowC filC (qs ++ [(f, (Value.slice A19 f.b.length c20))])) rfl (by simp) (filC_snoc qs (f, (Value.slice A19 f.b.length c20)))
  obtain ⟨A27, c28, rfl, hl29, hm30⟩ := hH.row_form 6 rfl
  replace hH : Hp w w26 _ _ [_, _, _, _, _, _, _, _, _] := hH
  replace hS9 := hH.sublist (slk (slk (slk (slk (slk (slk sln))))))
  refine ⟨hS9, ?_⟩
  refine gdo 1 [14] [(0, Pp db 0), (3, .slice A27 ((qs ++ [(f, (Value.slice A19 f.b.length c20))]).length) c28), (12, .slice A6 D.fs.length c7), (13, Ni D.fs.length), (14, Ni i)] hS9 (PQ.bk (PQ.th (PQ.th (PQ.bk (PQ.th PQ.body))))) ?_
  refine gdn [(0, Pp db 0), (3, .slice A27 ((qs ++ [(f, (Value.slice A19 f.b.length c20))]).length) c28), (12, .slice A6 D.fs.length c7), (13, Ni D.fs.length), (14, Ni i)] ?_
  refine bkN ?_
  refine sw_next ?_
  refine sw_region ?_
  refine glo 1 [(0, Pp db 0), (3, .slice A27 ((qs ++ [(f, (Value.slice A19 f.b.length c20))]).length) c28), (12, .slice A6 D.fs.length c7), (13, Ni D.fs.length), (38, .int .i64 (IntKind.i64.wrap (((i : Nat) : Int) + 1)))] ?_
  refine gl_cv 38 (Ni (i + 1)) (cv_i64 (by omega)) rfl ?_
  refine glo 1 [(0, Pp db 0), (3, .slice A27 ((qs ++ [(f, (Value.slice A19 f.b.length c20))]).length) c28), (12, .slice A6 D.fs.length c7), (13, Ni D.fs.length), (14, Ni (i + 1))] ?_
  refine gl_done rfl ?_
  refine rnd_end (g := (i, qs, Ao, co)) (i + 1, qs ++ [(f, (Value.slice A19 f.b.length c20))], A27, c28) (by kernel_rfl) ?_ ?_
  replace hH := hH.fr8.fr7
  replace hH := hH.merge
  replace hH := hH.cast (os' := [filRs (qs ++ [(f, (Value.slice A19 f.b.length c20))]), .blk db 70 [.map (some mb), .bool D.off, arV D.ar ab], .smap mb (kvE es), filsO es, .grp (armO D.ar ab), .row (.slice A6 D.fs.length c7) 9 1 D.fs.length (nmC D.fs), .row (.slice A27 ((qs ++ [(f, (Value.slice A19 f.b.length c20))]).length) c28) 83 3 ((qs ++ [(f, (Value.slice A19 f.b.length c20))]).length) (rowC filC (qs ++ [(f, (Value.slice A19 f.b.length c20))])), .row (.slice (some ⟨b23, 0, none⟩) 1 1) 83 3 1 [.string (bs f.name), .slice A19 f.b.length c20, Ni f.sure]]) (by simp [filRs, filR])
  replace hH := hH.fr7.fr2.fr7.fr7.fr7.fr7.fr7
  replace hH : Hp w w26 _ _ [_, _, _, _, _, _, _] := (hH.sublist (slk (slk (slk (slk (slk (slk (slk sln))))))))
  · exact ⟨by omega, by rw [List.map_append, hqs, List.map_singleton, take_next hf], hH⟩
  · show D.fs.length - (i + 1) < D.fs.length - i; omega
 try simp only [decide_eq_false_iff_not, Int.not_lt, Int.not_le] at hc1
 refine sw_exit ?_
 refine thX ?_
 refine thX ?_
 refine bkH ?_
 refine sw_next ?_
 refine sw_sr ?_
 refine glo 2 [(2, .slice Ao qs.length co)] ?_
 refine gl_dn rfl ?_
 refine sw_ret ?_
 refine ret1 rfl rfl  ?_
 replace hH := hH.fr6.fr7.fr6.fr6.fr6.fr6
 replace hH : Hp w w10 _ _ [_, _, _, _, _, _] := (hH.sublist (slk (slk (slk (slk (slk (slk sln)))))))
 replace hH : Hp w w10 _ _ (dskO db mb ab D es ++ [.row (.slice Ao qs.length co) 83 3 qs.length (rowC filC qs), filRs qs]) := hH
 exact ⟨_, qs, rfl, by rw [hqs, List.take_of_length_le (by omega)], hH.close.turned⟩
theorem Start_ct (db mb ab : Nat) (D : Dsk) (es : List PE) (vk : Value) (ks : List Int) (M : Nat) (w : World) (hM : Mine w (ownD db mb ab D es)) (hk : Row (off w (blksOf (ownD db mb ab D es))) vk 1 ks.length (iv ks)) (hR : Rep es D.fs) (hG : Good D.fs M) (hMM : M ≤ 140737488355328) (hN : D.fs.length ≤ 1000000) :
    Fun Tryz.prog 23 [.pointer (some ⟨db, 0, none⟩), vk] w fun v w' => ∃ es', v = .tuple #[] ∧ Rep es' (startD D ks).fs ∧ Turn w w' (ownD db mb ab D es) [.grp (dskO db mb ab (startD D ks) es')] := by
 obtain ⟨Ak, ck, rfl, hk1, hk2⟩ := hk.form
 refine fun_of_sw Tryz.func23 rfl 75 rfl rfl ?_
 have hH : Hp w w (off w (blksOf (ownD db mb ab D es))) (blksOf (ownD db mb ab D es)) (dskO db mb ab D es ++ []) := (Hp.start_mine hM).open_
 replace hH : Hp w w _ _ [.blk db 70 [.map (some mb), .bool D.off, arV D.ar ab], .smap mb (kvE es), filsO es, .grp (armO D.ar ab)] := hH
 refine sw_seq ?_
 refine sw_sr ?_
 refine glo 3 [(0, Pp db 0), (1, .slice Ak ks.length ck), (9, Pp db 0)] ?_
 refine gl_q rfl rfl rfl (rd_loadK 0 (by kernel_rfl) hH rfl rfl rfl) ?_
 refine gl_st (st_call rfl rfl rfl (by kernel_rfl) rfl (MapsKeys_ct mb _) ?_)
 rintro _ w2 ⟨kb1, rfl, hF3⟩
 replace hH := hH.call hF3; clear hF3
 refine gl_st (st_call rfl rfl rfl (by kernel_rfl) rfl (SortedKeys_ct kb1 mb _ _ (hH.blk_cell 4 rfl rfl) (hH.own _ (List.mem_of_getElem? (i := 1) rfl)) (skeys_le hR hG) (by rw [kvE_len hR]; omega)) ?_)
 rintro _ w4 ⟨ss, kv, rfl, hperm, hF5⟩
 replace hH := hH.call hF5; clear hF5
 obtain ⟨hs1, hs2⟩ := keys_row hR hperm
 rw [hs1, hs2] at hH
 obtain ⟨A6, c7, rfl, hl8, hm9⟩ := hH.row_form 5 rfl
 refine gl_q rfl rfl rfl (rd_len (e := 9) (by kernel_rfl) rfl) ?_
 refine glo 1 [(0, Pp db 0), (1, .slice Ak ks.length ck), (12, .slice A6 D.fs.length c7), (13, Ni D.fs.length), (14, .int .i64 0)] ?_
 refine gl_dn rfl ?_
 refine sw_block ?_
 replace hH := hH.fr6.fr5.fr5.fr5.fr5
 replace hH : Hp w w4 _ _ [_, _, _, _, _] := (hH.sublist (slk (slk (slk (slk (slk sln))))))
 refine sw_loop (γ := Nat × List PE) (fun (i, es2) => [(0, Pp db 0), (1, .slice Ak ks.length ck), (12, .slice A6 D.fs.length c7), (13, Ni D.fs.length), (14, Ni i)]) (fun (i, es2) w_ => (i ≤ D.fs.length) ∧ (Rep es2 (partF D.fs ks i)) ∧ Hp w w_ (off w (blksOf (ownD db mb ab D es))) (blksOf (ownD db mb ab D es)) [.blk db 70 [.map (some mb), .bool D.off, arV D.ar ab], .smap mb (kvE es2), filsO es2, .grp (armO D.ar ab), .row (.slice A6 D.fs.length c7) 9 1 D.fs.length (nmC D.fs)]) (fun (i, es2) => D.fs.length - i) (0, es) (Sub.of_eq (by kernel_rfl)) ?_ ?_
 · exact ⟨by omega, by rw [partF_zero]; exact hR, hH⟩
 clear hH
 rintro ⟨i, es2⟩ w10 ⟨hi, hR2, hH⟩
 refine swk [(0, Pp db 0), (1, .slice Ak ks.length ck), (12, .slice A6 D.fs.length c7), (13, Ni D.fs.length), (14, Ni i)] ?_
 refine sw_sr ?_
 refine glo 1 [(0, Pp db 0), (1, .slice Ak ks.length ck), (12, .slice A6 D.fs.length c7), (13, Ni D.fs.length), (14, Ni i), (15, .bool (decide (((i : Nat) : Int) < ((D.fs.length : Nat) : Int))))] ?_
 refine gl_dn rfl ?_
 refine sw_seq ?_
 refine sw_cond rfl rfl (fun hc1 => ?_) (fun hc1 => ?_)
 ·
  try simp only [decide_eq_true_eq] at hc1
  refine sw_skip ?_
  refine sw_next ?_
  refine sw_seq ?_
  refine sw_block ?_
  obtain ⟨f, hf⟩ : ∃ f, D.fs[i]? = some f := ⟨_, List.getElem?_eq_getElem (by omega)⟩
  have hbM := hG.short f (List.mem_of_getElem? hf)
  have hsr := hG.sure f (List.mem_of_getElem? hf)
  have hmod := modI_lt (ks.getD i 0) (show 0 < f.b.length - f.sure + 1 by omega)
  refine sw_sr ?_
  obtain ⟨b12, hb11, hi13⟩ := hH.row_idx 4 rfl i (by omega)
  refine glo 1 [(0, Pp db 0), (1, .slice Ak ks.length ck), (12, .slice A6 D.fs.length c7), (13, Ni D.fs.length), (14, Ni i), (16, Ni i)] ?_
  refine gl_q rfl rfl rfl (rd_idx (e := 9) (m := 1) (by kernel_rfl) (by kernel_rfl) rfl rfl hi13) ?_
  refine gl_q rfl rfl rfl (rd_loadO 4 (by kernel_rfl) hH rfl rfl hb11 (nmC_at hf)) ?_
  refine glo 2 [(0, Pp db 0), (1, .slice Ak ks.length ck), (4, Ni i), (5, .string (bs f.name)), (12, .slice A6 D.fs.length c7), (13, Ni D.fs.length), (14, Ni i)] ?_
  refine gl_dn rfl ?_
  obtain ⟨fb, fv, he, hfv, hlt⟩ := pe_at hR2 (partF_at hf)
  refine sw_sr ?_
  refine glo 3 [(0, Pp db 0), (1, .slice Ak ks.length ck), (4, Ni i), (5, .string (bs f.name)), (12, .slice A6 D.fs.length c7), (13, Ni D.fs.length), (14, Ni i), (21, Pp db 0)] ?_
  refine gl_q rfl rfl rfl (rd_loadK 0 (by kernel_rfl) hH rfl rfl rfl) ?_
  refine glo 1 [(0, Pp db 0), (1, .slice Ak ks.length ck), (4, Ni i), (12, .slice A6 D.fs.length c7), (13, Ni D.fs.length), (14, Ni i), (22, .map (some mb)), (23, .string (bs f.name))] ?_
  refine gl_q rfl rfl rfl (rd_smget (kt := 9) (e := 73) (zv := .pointer none) 1 (by kernel_rfl) (by kernel_rfl) (by kernel_rfl) hH rfl rfl f.name rfl) ?_
  refine gl_cv 24 (Pp fb 0) ((fV_get _ _).trans hfv) rfl ?_
  refine glo 1 [(0, Pp db 0), (1, .slice Ak ks.length ck), (4, Ni i), (6, Pp fb 0), (12, .slice A6 D.fs.length c7), (13, Ni D.fs.length), (14, Ni i)] ?_
  refine gl_dn rfl ?_
  replace hH := hH.fr3
  replace hH := fil_out he hH
  replace hH : Hp w w10 _ _ [.blk fb 80 [fv, Ni f.sure], .vw fv 5 f.b, restO es2 (ixE es2 f.name), .blk db 70 [.map (some mb), .bool D.off, arV D.ar ab], .smap mb (kvE es2), .grp (armO D.ar ab), .row (.slice A6 D.fs.length c7) 9 1 D.fs.length (nmC D.fs)] := hH
  obtain ⟨Af, cf, hv, hv1, hv2⟩ := hH.vw_form 1 rfl
  subst hv
  refine sw_cut (γ := Nat) (fun s1 => [(0, Pp db 0), (1, .slice Ak ks.length ck), (6, Pp fb 0), (12, .slice A6 D.fs.length c7), (13, Ni D.fs.length), (14, Ni i)]) (fun s1 w_ => (s1 = startS f i ks) ∧ Hp w w_ (off w (blksOf (ownD db mb ab D es))) (blksOf (ownD db mb ab D es)) [.blk fb 80 [.slice Af f.b.length cf, Ni s1], .vw (.slice Af f.b.length cf) 5 f.b, restO es2 (ixE es2 f.name), .blk db 70 [.map (some mb), .bool D.off, arV D.ar ab], .smap mb (kvE es2), .grp (armO D.ar ab), .row (.slice A6 D.fs.length c7) 9 1 D.fs.length (nmC D.fs)]) ?_ ?_
  ·
   refine sw_sr ?_
   refine glo 2 [(0, Pp db 0), (1, .slice Ak ks.length ck), (4, Ni i), (6, Pp fb 0), (12, .slice A6 D.fs.length c7), (13, Ni D.fs.length), (14, Ni i), (25, Ni i), (26, .slice Ak ks.length ck)] ?_
   refine gl_q rfl rfl rfl (rd_len (e := 3) (by kernel_rfl) rfl) ?_
   refine glo 1 [(0, Pp db 0), (1, .slice Ak ks.length ck), (4, Ni i), (6, Pp fb 0), (12, .slice A6 D.fs.length c7), (13, Ni D.fs.length), (14, Ni i), (28, .bool (decide (((i : Nat) : Int) < ((ks.length : Nat) : Int))))] ?_
   refine gl_dn rfl ?_
   refine sw_cond rfl rfl (fun hc2 => ?_) (fun hc2 => ?_)
   ·
    try simp only [decide_eq_true_eq] at hc2
    refine sw_draw (by kernel_rfl) (fun w_ => Hp w w_ (off w (blksOf (ownD db mb ab D es))) (blksOf (ownD db mb ab D es)) [.vw (.slice Af f.b.length cf) 5 f.b, restO es2 (ixE es2 f.name), .blk db 70 [.map (some mb), .bool D.off, arV D.ar ab], .smap mb (kvE es2), .grp (armO D.ar ab), .row (.slice A6 D.fs.length c7) 9 1 D.fs.length (nmC D.fs)]) ?_
    replace hH := hH.drew
    generalize { w10 with drawn := w10.drawn + 1 } = w14 at hH ⊢
    have hS9 := hH.sublist (slc (slk (slk (slk (slk (slk (slk sln)))))))
    obtain ⟨p15, hi17, hp16⟩ := hk.idx i (by omega) (by decide)
    refine gdo 5 [0,1,2,4,5] [(0, Pp db 0), (1, .slice Ak ks.length ck), (6, Pp fb 0), (12, .slice A6 D.fs.length c7), (13, Ni D.fs.length), (14, Ni i), (29, Pp fb 0), (31, Pp fb 1), (33, .slice Ak ks.length ck), (34, Ni i)] hS9 (PQ.th (PQ.bk (PQ.th (PQ.th (PQ.bk (PQ.th PQ.body)))))) ?_
    refine gdq 6 rfl (fun w_ hS => (rd_idx (e := 3) (m := 1) (by kernel_rfl) (by kernel_rfl) rfl rfl hi17)) hS9 (PQ.th (PQ.bk (PQ.th (PQ.th (PQ.bk (PQ.th PQ.body)))))) ?_
    refine gdq 7 rfl (fun w_ hS => (rd_load (by kernel_rfl) rfl (hS.zin _ _ (hp16 0 _ (by decide) (iv_at ks i (by omega)))))) hS9 (PQ.th (PQ.bk (PQ.th (PQ.th (PQ.bk (PQ.th PQ.body)))))) ?_
    refine gdo 6 [8,9,10,13,14,15] [(0, Pp db 0), (1, .slice Ak ks.length ck), (6, Pp fb 0), (12, .slice A6 D.fs.length c7), (13, Ni D.fs.length), (14, Ni i), (29, Pp fb 0), (31, Pp fb 1), (36, .int .i64 (ks.getD i 0)), (39, Pp fb 0), (44, Pp fb 1)] hS9 (PQ.th (PQ.bk (PQ.th (PQ.th (PQ.bk (PQ.th PQ.body)))))) ?_
    refine gd_st3 3 11 16 (by kernel_rfl) ?_ ?_ ?_
    ·
     refine st_q rfl rfl rfl (rd_loadK 0 (by kernel_rfl) hH rfl rfl rfl) ?_
     refine ⟨hS9, ?_⟩
     refine gdk [(0, Pp db 0), (1, .slice Ak ks.length ck), (6, Pp fb 0), (12, .slice A6 D.fs.length c7), (13, Ni D.fs.length), (14, Ni i), (29, Pp fb 0), (32, Ni f.sure), (36, .int .i64 (ks.getD i 0)), (39, Pp fb 0), (44, Pp fb 1)] ?_
     refine gd_st2 11 16 (by kernel_rfl) ?_ ?_
     ·
      refine st_q rfl rfl rfl (rd_loadK 0 (by kernel_rfl) hH rfl rfl rfl) ?_
      refine ⟨hS9, ?_⟩
      refine gdk [(0, Pp db 0), (1, .slice Ak ks.length ck), (6, Pp fb 0), (12, .slice A6 D.fs.length c7), (13, Ni D.fs.length), (14, Ni i), (29, Pp fb 0), (32, Ni f.sure), (36, .int .i64 (ks.getD i 0)), (40, .slice Af f.b.length cf), (44, Pp fb 1)] ?_
      refine gdq 12 rfl (fun w_ hS => (rd_len (e := 5) (by kernel_rfl) rfl)) hS9 (PQ.th (PQ.bk (PQ.th (PQ.th (PQ.bk (PQ.th PQ.body)))))) ?_
      refine gds 16 (st_q rfl rfl rfl (rd_loadK 0 (by kernel_rfl) hH rfl rfl rfl) ?_)
      refine ⟨hS9, ?_⟩
      refine gdo 1 [17] [(0, Pp db 0), (1, .slice Ak ks.length ck), (6, Pp fb 0), (12, .slice A6 D.fs.length c7), (13, Ni D.fs.length), (14, Ni i), (29, Pp fb 0), (32, Ni f.sure), (36, .int .i64 (ks.getD i 0)), (41, Ni f.b.length), (45, Ni f.sure), (46, .int .i64 (IntKind.i64.wrap (((f.b.length : Nat) : Int) - ((f.sure : Nat) : Int))))] hS9 (PQ.th (PQ.bk (PQ.th (PQ.th (PQ.bk (PQ.th PQ.body)))))) ?_
      refine gd_cv 46 (Ni (f.b.length - f.sure)) (cv_i64 (by omega)) rfl ?_
      refine gdo 1 [18] [(0, Pp db 0), (1, .slice Ak ks.length ck), (6, Pp fb 0), (12, .slice A6 D.fs.length c7), (13, Ni D.fs.length), (14, Ni i), (29, Pp fb 0), (32, Ni f.sure), (36, .int .i64 (ks.getD i 0)), (46, Ni (f.b.length - f.sure)), (47, .int .i64 (IntKind.i64.wrap (((f.b.length - f.sure : Nat) : Int) + 1)))] hS9 (PQ.th (PQ.bk (PQ.th (PQ.th (PQ.bk (PQ.th PQ.body)))))) ?_
      refine gd_cv 47 (Ni ((f.b.length - f.sure) + 1)) (cv_i64 (by omega)) rfl ?_
      refine gds 19 (st_call rfl rfl rfl (by kernel_rfl) rfl (Modulo_ct (ks.getD i 0) ((f.b.length - f.sure) + 1) _ (by omega) (by omega)) ?_)
      rintro _ w18 ⟨rfl, hF19⟩
      replace hH := hH.call hF19; clear hF19
      replace hS9 := hH.sublist (slc (slk (slk (slk (slk (slk (slk sln)))))))
      refine ⟨hS9, ?_⟩
      refine gdo 1 [20] [(0, Pp db 0), (1, .slice Ak ks.length ck), (6, Pp fb 0), (12, .slice A6 D.fs.length c7), (13, Ni D.fs.length), (14, Ni i), (29, Pp fb 0), (32, Ni f.sure), (48, Ni (modI (ks.getD i 0) ((f.b.length - f.sure) + 1))), (49, .int .i64 (IntKind.i64.wrap (((f.sure : Nat) : Int) + ((modI (ks.getD i 0) ((f.b.length - f.sure) + 1) : Nat) : Int))))] hS9 (PQ.th (PQ.bk (PQ.th (PQ.th (PQ.bk (PQ.th PQ.body)))))) ?_
      refine gd_cv 49 (Ni (f.sure + (modI (ks.getD i 0) ((f.b.length - f.sure) + 1)))) (cv_i64 (by omega)) rfl ?_
      refine gdo 2 [21,22] [(0, Pp db 0), (1, .slice Ak ks.length ck), (6, Pp fb 0), (12, .slice A6 D.fs.length c7), (13, Ni D.fs.length), (14, Ni i), (49, Ni (f.sure + (modI (ks.getD i 0) ((f.b.length - f.sure) + 1)))), (51, Pp fb 1)] hS9 (PQ.th (PQ.bk (PQ.th (PQ.th (PQ.bk (PQ.th PQ.body)))))) ?_
      refine gds 23 (st_storeK (v := Ni (f.sure + (modI (ks.getD i 0) ((f.b.length - f.sure) + 1)))) 0 rfl rfl rfl hH rfl rfl rfl (by kernel_rfl) rfl (by simp) ?_)
      clear hH; intro w20 hH
      replace hS9 := hH.sublist (slc (slk (slk (slk (slk (slk (slk sln)))))))
      refine ⟨hS9, ?_⟩
      refine gdn [(0, Pp db 0), (1, .slice Ak ks.length ck), (6, Pp fb 0), (12, .slice A6 D.fs.length c7), (13, Ni D.fs.length), (14, Ni i)] ?_
      refine cut_end (f.sure + (modI (ks.getD i 0) ((f.b.length - f.sure) + 1))) (Sub.of_eq (by kernel_rfl)) ?_
      exact ⟨by unfold startS; rw [if_pos (by omega)], hH⟩
     ·
      refine st_q rfl rfl rfl (rd_loadK 0 (by kernel_rfl) hH rfl rfl rfl) ?_
      refine ⟨hS9, ?_⟩
      refine gdk [(0, Pp db 0), (1, .slice Ak ks.length ck), (6, Pp fb 0), (12, .slice A6 D.fs.length c7), (13, Ni D.fs.length), (14, Ni i), (29, Pp fb 0), (32, Ni f.sure), (36, .int .i64 (ks.getD i 0)), (39, Pp fb 0), (45, Ni f.sure)] ?_
      refine gds 11 (st_q rfl rfl rfl (rd_loadK 0 (by kernel_rfl) hH rfl rfl rfl) ?_)
      refine ⟨hS9, ?_⟩
      refine gdq 12 rfl (fun w_ hS => (rd_len (e := 5) (by kernel_rfl) rfl)) hS9 (PQ.th (PQ.bk (PQ.th (PQ.th (PQ.bk (PQ.th PQ.body)))))) ?_
      refine gdo 1 [17] [(0, Pp db 0), (1, .slice Ak ks.length ck), (6, Pp fb 0), (12, .slice A6 D.fs.length c7), (13, Ni D.fs.length), (14, Ni i), (29, Pp fb 0), (32, Ni f.sure), (36, .int .i64 (ks.getD i 0)), (41, Ni f.b.length), (45, Ni f.sure), (46, .int .i64 (IntKind.i64.wrap (((f.b.length : Nat) : Int) - ((f.sure : Nat) : Int))))] hS9 (PQ.th (PQ.bk (PQ.th (PQ.th (PQ.bk (PQ.th PQ.body)))))) ?_
      refine gd_cv 46 (Ni (f.b.length - f.sure)) (cv_i64 (by omega)) rfl ?_
      refine gdo 1 [18] [(0, Pp db 0), (1, .slice Ak ks.length ck), (6, Pp fb 0), (12, .slice A6 D.fs.length c7), (13, Ni D.fs.length), (14, Ni i), (29, Pp fb 0), (32, Ni f.sure), (36, .int .i64 (ks.getD i 0)), (46, Ni (f.b.length - f.sure)), (47, .int .i64 (IntKind.i64.wrap (((f.b.length - f.sure : Nat) : Int) + 1)))] hS9 (PQ.th (PQ.bk (PQ.th (PQ.th (PQ.bk (PQ.th PQ.body)))))) ?_
      refine gd_cv 47 (Ni ((f.b.length - f.sure) + 1)) (cv_i64 (by omega)) rfl ?_
      refine gds 19 (st_call rfl rfl rfl (by kernel_rfl) rfl (Modulo_ct (ks.getD i 0) ((f.b.length - f.sure) + 1) _ (by omega) (by omega)) ?_)
      rintro _ w21 ⟨rfl, hF22⟩
      replace hH := hH.call hF22; clear hF22
      replace hS9 := hH.sublist (slc (slk (slk (slk (slk (slk (slk sln)))))))
      refine ⟨hS9, ?_⟩
      refine gdo 1 [20] [(0, Pp db 0), (1, .slice Ak ks.length ck), (6, Pp fb 0), (12, .slice A6 D.fs.length c7), (13, Ni D.fs.length), (14, Ni i), (29, Pp fb 0), (32, Ni f.sure), (48, Ni (modI (ks.getD i 0) ((f.b.length - f.sure) + 1))), (49, .int .i64 (IntKind.i64.wrap (((f.sure : Nat) : Int) + ((modI (ks.getD i 0) ((f.b.length - f.sure) + 1) : Nat) : Int))))] hS9 (PQ.th (PQ.bk (PQ.th (PQ.th (PQ.bk (PQ.th PQ.body)))))) ?_
      refine gd_cv 49 (Ni (f.sure + (modI (ks.getD i 0) ((f.b.length - f.sure) + 1)))) (cv_i64 (by omega)) rfl ?_
      refine gdo 2 [21,22] [(0, Pp db 0), (1, .slice Ak ks.length ck), (6, Pp fb 0), (12, .slice A6 D.fs.length c7), (13, Ni D.fs.length), (14, Ni i), (49, Ni (f.sure + (modI (ks.getD i 0) ((f.b.length - f.sure) + 1)))), (51, Pp fb 1)] hS9 (PQ.th (PQ.bk (PQ.th (PQ.th (PQ.bk (PQ.th PQ.body)))))) ?_
      refine gds 23 (st_storeK (v := Ni (f.sure + (modI (ks.getD i 0) ((f.b.length - f.sure) + 1)))) 0 rfl rfl rfl hH rfl rfl rfl (by kernel_rfl) rfl (by simp) ?_)
      clear hH; intro w23 hH
      replace hS9 := hH.sublist (slc (slk (slk (slk (slk (slk (slk sln)))))))
      refine ⟨hS9, ?_⟩
      refine gdn [(0, Pp db 0), (1, .slice Ak ks.length ck), (6, Pp fb 0), (12, .slice A6 D.fs.length c7), (13, Ni D.fs.length), (14, Ni i)] ?_
      refine cut_end (f.sure + (modI (ks.getD i 0) ((f.b.length - f.sure) + 1))) (Sub.of_eq (by kernel_rfl)) ?_
      exact ⟨by unfold startS; rw [if_pos (by omega)], hH⟩
    ·
     refine st_q rfl rfl rfl (rd_loadK 0 (by kernel_rfl) hH rfl rfl rfl) ?_
     refine ⟨hS9, ?_⟩
     refine gdk [(0, Pp db 0), (1, .slice Ak ks.length ck), (6, Pp fb 0), (12, .slice A6 D.fs.length c7), (13, Ni D.fs.length), (14, Ni i), (29, Pp fb 0), (31, Pp fb 1), (36, .int .i64 (ks.getD i 0)), (40, .slice Af f.b.length cf), (44, Pp fb 1)] ?_
     refine gdq 12 rfl (fun w_ hS => (rd_len (e := 5) (by kernel_rfl) rfl)) hS9 (PQ.th (PQ.bk (PQ.th (PQ.th (PQ.bk (PQ.th PQ.body)))))) ?_
     refine gd_st2 3 16 (by kernel_rfl) ?_ ?_
     ·
      refine st_q rfl rfl rfl (rd_loadK 0 (by kernel_rfl) hH rfl rfl rfl) ?_
      refine ⟨hS9, ?_⟩
      refine gdk [(0, Pp db 0), (1, .slice Ak ks.length ck), (6, Pp fb 0), (12, .slice A6 D.fs.length c7), (13, Ni D.fs.length), (14, Ni i), (29, Pp fb 0), (32, Ni f.sure), (36, .int .i64 (ks.getD i 0)), (41, Ni f.b.length), (44, Pp fb 1)] ?_
      refine gds 16 (st_q rfl rfl rfl (rd_loadK 0 (by kernel_rfl) hH rfl rfl rfl) ?_)
      refine ⟨hS9, ?_⟩
      refine gdo 1 [17] [(0, Pp db 0), (1, .slice Ak ks.length ck), (6, Pp fb 0), (12, .slice A6 D.fs.length c7), (13, Ni D.fs.length), (14, Ni i), (29, Pp fb 0), (32, Ni f.sure), (36, .int .i64 (ks.getD i 0)), (41, Ni f.b.length), (45, Ni f.sure), (46, .int .i64 (IntKind.i64.wrap (((f.b.length : Nat) : Int) - ((f.sure : Nat) : Int))))] hS9 (PQ.th (PQ.bk (PQ.th (PQ.th (PQ.bk (PQ.th PQ.body)))))) ?_
      refine gd_cv 46 (Ni (f.b.length - f.sure)) (cv_i64 (by omega)) rfl ?_
      refine gdo 1 [18] [(0, Pp db 0), (1, .slice Ak ks.length ck), (6, Pp fb 0), (12, .slice A6 D.fs.length c7), (13, Ni D.fs.length), (14, Ni i), (29, Pp fb 0), (32, Ni f.sure), (36, .int .i64 (ks.getD i 0)), (46, Ni (f.b.length - f.sure)), (47, .int .i64 (IntKind.i64.wrap (((f.b.length - f.sure : Nat) : Int) + 1)))] hS9 (PQ.th (PQ.bk (PQ.th (PQ.th (PQ.bk (PQ.th PQ.body)))))) ?_
      refine gd_cv 47 (Ni ((f.b.length - f.sure) + 1)) (cv_i64 (by omega)) rfl ?_
      refine gds 19 (st_call rfl rfl rfl (by kernel_rfl) rfl (Modulo_ct (ks.getD i 0) ((f.b.length - f.sure) + 1) _ (by omega) (by omega)) ?_)
      rintro _ w24 ⟨rfl, hF25⟩
      replace hH := hH.call hF25; clear hF25
      replace hS9 := hH.sublist (slc (slk (slk (slk (slk (slk (slk sln)))))))
      refine ⟨hS9, ?_⟩
      refine gdo 1 [20] [(0, Pp db 0), (1, .slice Ak ks.length ck), (6, Pp fb 0), (12, .slice A6 D.fs.length c7), (13, Ni D.fs.length), (14, Ni i), (29, Pp fb 0), (32, Ni f.sure), (48, Ni (modI (ks.getD i 0) ((f.b.length - f.sure) + 1))), (49, .int .i64 (IntKind.i64.wrap (((f.sure : Nat) : Int) + ((modI (ks.getD i 0) ((f.b.length - f.sure) + 1) : Nat) : Int))))] hS9 (PQ.th (PQ.bk (PQ.th (PQ.th (PQ.bk (PQ.th PQ.body)))))) ?_
      refine gd_cv 49 (Ni (f.sure + (modI (ks.getD i 0) ((f.b.length - f.sure) + 1)))) (cv_i64 (by omega)) rfl ?_
      refine gdo 2 [21,22] [(0, Pp db 0), (1, .slice Ak ks.length ck), (6, Pp fb 0), (12, .slice A6 D.fs.length c7), (13, Ni D.fs.length), (14, Ni i), (49, Ni (f.sure + (modI (ks.getD i 0) ((f.b.length - f.sure) + 1)))), (51, Pp fb 1)] hS9 (PQ.th (PQ.bk (PQ.th (PQ.th (PQ.bk (PQ.th PQ.body)))))) ?_
      refine gds 23 (st_storeK (v := Ni (f.sure + (modI (ks.getD i 0) ((f.b.length - f.sure) + 1)))) 0 rfl rfl rfl hH rfl rfl rfl (by kernel_rfl) rfl (by simp) ?_)
      clear hH; intro w26 hH
      replace hS9 := hH.sublist (slc (slk (slk (slk (slk (slk (slk sln)))))))
      refine ⟨hS9, ?_⟩
      refine gdn [(0, Pp db 0), (1, .slice Ak ks.length ck), (6, Pp fb 0), (12, .slice A6 D.fs.length c7), (13, Ni D.fs.length), (14, Ni i)] ?_
      refine cut_end (f.sure + (modI (ks.getD i 0) ((f.b.length - f.sure) + 1))) (Sub.of_eq (by kernel_rfl)) ?_
      exact ⟨by unfold startS; rw [if_pos (by omega)], hH⟩
     ·
      refine st_q rfl rfl rfl (rd_loadK 0 (by kernel_rfl) hH rfl rfl rfl) ?_
      refine ⟨hS9, ?_⟩
      refine gdk [(0, Pp db 0), (1, .slice Ak ks.length ck), (6, Pp fb 0), (12, .slice A6 D.fs.length c7), (13, Ni D.fs.length), (14, Ni i), (29, Pp fb 0), (31, Pp fb 1), (36, .int .i64 (ks.getD i 0)), (41, Ni f.b.length), (45, Ni f.sure)] ?_
      refine gdo 1 [17] [(0, Pp db 0), (1, .slice Ak ks.length ck), (6, Pp fb 0), (12, .slice A6 D.fs.length c7), (13, Ni D.fs.length), (14, Ni i), (29, Pp fb 0), (31, Pp fb 1), (36, .int .i64 (ks.getD i 0)), (41, Ni f.b.length), (45, Ni f.sure), (46, .int .i64 (IntKind.i64.wrap (((f.b.length : Nat) : Int) - ((f.sure : Nat) : Int))))] hS9 (PQ.th (PQ.bk (PQ.th (PQ.th (PQ.bk (PQ.th PQ.body)))))) ?_
      refine gd_cv 46 (Ni (f.b.length - f.sure)) (cv_i64 (by omega)) rfl ?_
      refine gdo 1 [18] [(0, Pp db 0), (1, .slice Ak ks.length ck), (6, Pp fb 0), (12, .slice A6 D.fs.length c7), (13, Ni D.fs.length), (14, Ni i), (29, Pp fb 0), (31, Pp fb 1), (36, .int .i64 (ks.getD i 0)), (46, Ni (f.b.length - f.sure)), (47, .int .i64 (IntKind.i64.wrap (((f.b.length - f.sure : Nat) : Int) + 1)))] hS9 (PQ.th (PQ.bk (PQ.th (PQ.th (PQ.bk (PQ.th PQ.body)))))) ?_
      refine gd_cv 47 (Ni ((f.b.length - f.sure) + 1)) (cv_i64 (by omega)) rfl ?_
      refine gd_st2 3 19 (by kernel_rfl) ?_ ?_
      ·
       refine st_q rfl rfl rfl (rd_loadK 0 (by kernel_rfl) hH rfl rfl rfl) ?_
       refine ⟨hS9, ?_⟩
       refine gdk [(0, Pp db 0), (1, .slice Ak ks.length ck), (6, Pp fb 0), (12, .slice A6 D.fs.length c7), (13, Ni D.fs.length), (14, Ni i), (29, Pp fb 0), (32, Ni f.sure), (36, .int .i64 (ks.getD i 0)), (47, Ni ((f.b.length - f.sure) + 1))] ?_
       refine gds 19 (st_call rfl rfl rfl (by kernel_rfl) rfl (Modulo_ct (ks.getD i 0) ((f.b.length - f.sure) + 1) _ (by omega) (by omega)) ?_)
       rintro _ w27 ⟨rfl, hF28⟩
       replace hH := hH.call hF28; clear hF28
       replace hS9 := hH.sublist (slc (slk (slk (slk (slk (slk (slk sln)))))))
       refine ⟨hS9, ?_⟩
       refine gdo 1 [20] [(0, Pp db 0), (1, .slice Ak ks.length ck), (6, Pp fb 0), (12, .slice A6 D.fs.length c7), (13, Ni D.fs.length), (14, Ni i), (29, Pp fb 0), (32, Ni f.sure), (48, Ni (modI (ks.getD i 0) ((f.b.length - f.sure) + 1))), (49, .int .i64 (IntKind.i64.wrap (((f.sure : Nat) : Int) + ((modI (ks.getD i 0) ((f.b.length - f.sure) + 1) : Nat) : Int))))] hS9 (PQ.th (PQ.bk (PQ.th (PQ.th (PQ.bk (PQ.th PQ.body)))))) ?_
       refine gd_cv 49 (Ni (f.sure + (modI (ks.getD i 0) ((f.b.length - f.sure) + 1)))) (cv_i64 (by omega)) rfl ?_
       refine gdo 2 [21,22] [(0, Pp db 0), (1, .slice Ak ks.length ck), (6, Pp fb 0), (12, .slice A6 D.fs.length c7), (13, Ni D.fs.length), (14, Ni i), (49, Ni (f.sure + (modI (ks.getD i 0) ((f.b.length - f.sure) + 1)))), (51, Pp fb 1)] hS9 (PQ.th (PQ.bk (PQ.th (PQ.th (PQ.bk (PQ.th PQ.body)))))) ?_
       refine gds 23 (st_storeK (v := Ni (f.sure + (modI (ks.getD i 0) ((f.b.length - f.sure) + 1)))) 0 rfl rfl rfl hH rfl rfl rfl (by kernel_rfl) rfl (by simp) ?_)
       clear hH; intro w29 hH
       replace hS9 := hH.sublist (slc (slk (slk (slk (slk (slk (slk sln)))))))
       refine ⟨hS9, ?_⟩
       refine gdn [(0, Pp db 0), (1, .slice Ak ks.length ck), (6, Pp fb 0), (12, .slice A6 D.fs.length c7), (13, Ni D.fs.length), (14, Ni i)] ?_
       refine cut_end (f.sure + (modI (ks.getD i 0) ((f.b.length - f.sure) + 1))) (Sub.of_eq (by kernel_rfl)) ?_
       exact ⟨by unfold startS; rw [if_pos (by omega)], hH⟩
      ·
       refine st_call rfl rfl rfl (by kernel_rfl) rfl (Modulo_ct (ks.getD i 0) ((f.b.length - f.sure) + 1) _ (by omega) (by omega)) ?_
       rintro _ w30 ⟨rfl, hF31⟩
       replace hH := hH.call hF31; clear hF31
       replace hS9 := hH.sublist (slc (slk (slk (slk (slk (slk (slk sln)))))))
       refine ⟨hS9, ?_⟩
       refine gdk [(0, Pp db 0), (1, .slice Ak ks.length ck), (6, Pp fb 0), (12, .slice A6 D.fs.length c7), (13, Ni D.fs.length), (14, Ni i), (29, Pp fb 0), (31, Pp fb 1), (48, Ni (modI (ks.getD i 0) ((f.b.length - f.sure) + 1)))] ?_
       refine gds 3 (st_q rfl rfl rfl (rd_loadK 0 (by kernel_rfl) hH rfl rfl rfl) ?_)
       refine ⟨hS9, ?_⟩
       refine gdo 1 [20] [(0, Pp db 0), (1, .slice Ak ks.length ck), (6, Pp fb 0), (12, .slice A6 D.fs.length c7), (13, Ni D.fs.length), (14, Ni i), (29, Pp fb 0), (32, Ni f.sure), (48, Ni (modI (ks.getD i 0) ((f.b.length - f.sure) + 1))), (49, .int .i64 (IntKind.i64.wrap (((f.sure : Nat) : Int) + ((modI (ks.getD i 0) ((f.b.length - f.sure) + 1) : Nat) : Int))))] hS9 (PQ.th (PQ.bk (PQ.th (PQ.th (PQ.bk (PQ.th PQ.body)))))) ?_
       refine gd_cv 49 (Ni (f.sure + (modI (ks.getD i 0) ((f.b.length - f.sure) + 1)))) (cv_i64 (by omega)) rfl ?_
       refine gdo 2 [21,22] [(0, Pp db 0), (1, .slice Ak ks.length ck), (6, Pp fb 0), (12, .slice A6 D.fs.length c7), (13, Ni D.fs.length), (14, Ni i), (49, Ni (f.sure + (modI (ks.getD i 0) ((f.b.length - f.sure) + 1)))), (51, Pp fb 1)] hS9 (PQ.th (PQ.bk (PQ.th (PQ.th (PQ.bk (PQ.th PQ.body)))))) ?_
       refine gds 23 (st_storeK (v := Ni (f.sure + (modI (ks.getD i 0) ((f.b.length - f.sure) + 1)))) 0 rfl rfl rfl hH rfl rfl rfl (by kernel_rfl) rfl (by simp) ?_)
       clear hH; intro w32 hH
       replace hS9 := hH.sublist (slc (slk (slk (slk (slk (slk (slk sln)))))))
       refine ⟨hS9, ?_⟩
       refine gdn [(0, Pp db 0), (1, .slice Ak ks.length ck), (6, Pp fb 0), (12, .slice A6 D.fs.length c7), (13, Ni D.fs.length), (14, Ni i)] ?_
       refine cut_end (f.sure + (modI (ks.getD i 0) ((f.b.length - f.sure) + 1))) (Sub.of_eq (by kernel_rfl)) ?_
       exact ⟨by unfold startS; rw [if_pos (by omega)], hH⟩
    ·
     refine st_q rfl rfl rfl (rd_loadK 0 (by kernel_rfl) hH rfl rfl rfl) ?_
     refine ⟨hS9, ?_⟩
     refine gdk [(0, Pp db 0), (1, .slice Ak ks.length ck), (6, Pp fb 0), (12, .slice A6 D.fs.length c7), (13, Ni D.fs.length), (14, Ni i), (29, Pp fb 0), (31, Pp fb 1), (36, .int .i64 (ks.getD i 0)), (39, Pp fb 0), (45, Ni f.sure)] ?_
     refine gd_st2 3 11 (by kernel_rfl) ?_ ?_
     ·
      refine st_q rfl rfl rfl (rd_loadK 0 (by kernel_rfl) hH rfl rfl rfl) ?_
      refine ⟨hS9, ?_⟩
      refine gdk [(0, Pp db 0), (1, .slice Ak ks.length ck), (6, Pp fb 0), (12, .slice A6 D.fs.length c7), (13, Ni D.fs.length), (14, Ni i), (29, Pp fb 0), (32, Ni f.sure), (36, .int .i64 (ks.getD i 0)), (39, Pp fb 0), (45, Ni f.sure)] ?_
      refine gds 11 (st_q rfl rfl rfl (rd_loadK 0 (by kernel_rfl) hH rfl rfl rfl) ?_)
      refine ⟨hS9, ?_⟩
      refine gdq 12 rfl (fun w_ hS => (rd_len (e := 5) (by kernel_rfl) rfl)) hS9 (PQ.th (PQ.bk (PQ.th (PQ.th (PQ.bk (PQ.th PQ.body)))))) ?_
      refine gdo 1 [17] [(0, Pp db 0), (1, .slice Ak ks.length ck), (6, Pp fb 0), (12, .slice A6 D.fs.length c7), (13, Ni D.fs.length), (14, Ni i), (29, Pp fb 0), (32, Ni f.sure), (36, .int .i64 (ks.getD i 0)), (41, Ni f.b.length), (45, Ni f.sure), (46, .int .i64 (IntKind.i64.wrap (((f.b.length : Nat) : Int) - ((f.sure : Nat) : Int))))] hS9 (PQ.th (PQ.bk (PQ.th (PQ.th (PQ.bk (PQ.th PQ.body)))))) ?_
      refine gd_cv 46 (Ni (f.b.length - f.sure)) (cv_i64 (by omega)) rfl ?_
      refine gdo 1 [18] [(0, Pp db 0), (1, .slice Ak ks.length ck), (6, Pp fb 0), (12, .slice A6 D.fs.length c7), (13, Ni D.fs.length), (14, Ni i), (29, Pp fb 0), (32, Ni f.sure), (36, .int .i64 (ks.getD i 0)), (46, Ni (f.b.length - f.sure)), (47, .int .i64 (IntKind.i64.wrap (((f.b.length - f.sure : Nat) : Int) + 1)))] hS9 (PQ.th (PQ.bk (PQ.th (PQ.th (PQ.bk (PQ.th PQ.body)))))) ?_
      refine gd_cv 47 (Ni ((f.b.length - f.sure) + 1)) (cv_i64 (by omega)) rfl ?_
      refine gds 19 (st_call rfl rfl rfl (by kernel_rfl) rfl (Modulo_ct (ks.getD i 0) ((f.b.length - f.sure) + 1) _ (by omega) (by omega)) ?_)
      rintro _ w33 ⟨rfl, hF34⟩
      replace hH := hH.call hF34; clear hF34
      replace hS9 := hH.sublist (slc (slk (slk (slk (slk (slk (slk sln)))))))
      refine ⟨hS9, ?_⟩
      refine gdo 1 [20] [(0, Pp db 0), (1, .slice Ak ks.length ck), (6, Pp fb 0), (12, .slice A6 D.fs.length c7), (13, Ni D.fs.length), (14, Ni i), (29, Pp fb 0), (32, Ni f.sure), (48, Ni (modI (ks.getD i 0) ((f.b.length - f.sure) + 1))), (49, .int .i64 (IntKind.i64.wrap (((f.sure : Nat) : Int) + ((modI (ks.getD i 0) ((f.b.length - f.sure) + 1) : Nat) : Int))))] hS9 (PQ.th (PQ.bk (PQ.th (PQ.th (PQ.bk (PQ.th PQ.body)))))) ?_
      refine gd_cv 49 (Ni (f.sure + (modI (ks.getD i 0) ((f.b.length - f.sure) + 1)))) (cv_i64 (by omega)) rfl ?_
      refine gdo 2 [21,22] [(0, Pp db 0), (1, .slice Ak ks.length ck), (6, Pp fb 0), (12, .slice A6 D.fs.length c7), (13, Ni D.fs.length), (14, Ni i), (49, Ni (f.sure + (modI (ks.getD i 0) ((f.b.length - f.sure) + 1)))), (51, Pp fb 1)] hS9 (PQ.th (PQ.bk (PQ.th (PQ.th (PQ.bk (PQ.th PQ.body)))))) ?_
      refine gds 23 (st_storeK (v := Ni (f.sure + (modI (ks.getD i 0) ((f.b.length - f.sure) + 1)))) 0 rfl rfl rfl hH rfl rfl rfl (by kernel_rfl) rfl (by simp) ?_)
      clear hH; intro w35 hH
      replace hS9 := hH.sublist (slc (slk (slk (slk (slk (slk (slk sln)))))))
      refine ⟨hS9, ?_⟩
      refine gdn [(0, Pp db 0), (1, .slice Ak ks.length ck), (6, Pp fb 0), (12, .slice A6 D.fs.length c7), (13, Ni D.fs.length), (14, Ni i)] ?_
      refine cut_end (f.sure + (modI (ks.getD i 0) ((f.b.length - f.sure) + 1))) (Sub.of_eq (by kernel_rfl)) ?_
      exact ⟨by unfold startS; rw [if_pos (by omega)], hH⟩
     ·
      refine st_q rfl rfl rfl (rd_loadK 0 (by kernel_rfl) hH rfl rfl rfl) ?_
      refine ⟨hS9, ?_⟩
      refine gdk [(0, Pp db 0), (1, .slice Ak ks.length ck), (6, Pp fb 0), (12, .slice A6 D.fs.length c7), (13, Ni D.fs.length), (14, Ni i), (29, Pp fb 0), (31, Pp fb 1), (36, .int .i64 (ks.getD i 0)), (40, .slice Af f.b.length cf), (45, Ni f.sure)] ?_
      refine gdq 12 rfl (fun w_ hS => (rd_len (e := 5) (by kernel_rfl) rfl)) hS9 (PQ.th (PQ.bk (PQ.th (PQ.th (PQ.bk (PQ.th PQ.body)))))) ?_
      refine gdo 1 [17] [(0, Pp db 0), (1, .slice Ak ks.length ck), (6, Pp fb 0), (12, .slice A6 D.fs.length c7), (13, Ni D.fs.length), (14, Ni i), (29, Pp fb 0), (31, Pp fb 1), (36, .int .i64 (ks.getD i 0)), (41, Ni f.b.length), (45, Ni f.sure), (46, .int .i64 (IntKind.i64.wrap (((f.b.length : Nat) : Int) - ((f.sure : Nat) : Int))))] hS9 (PQ.th (PQ.bk (PQ.th (PQ.th (PQ.bk (PQ.th PQ.body)))))) ?_
      refine gd_cv 46 (Ni (f.b.length - f.sure)) (cv_i64 (by omega)) rfl ?_
      refine gdo 1 [18] [(0, Pp db 0), (1, .slice Ak ks.length ck), (6, Pp fb 0), (12, .slice A6 D.fs.length c7), (13, Ni D.fs.length), (14, Ni i), (29, Pp fb 0), (31, Pp fb 1), (36, .int .i64 (ks.getD i 0)), (46, Ni (f.b.length - f.sure)), (47, .int .i64 (IntKind.i64.wrap (((f.b.length - f.sure : Nat) : Int) + 1)))] hS9 (PQ.th (PQ.bk (PQ.th (PQ.th (PQ.bk (PQ.th PQ.body)))))) ?_
      refine gd_cv 47 (Ni ((f.b.length - f.sure) + 1)) (cv_i64 (by omega)) rfl ?_
      refine gd_st2 3 19 (by kernel_rfl) ?_ ?_
      ·
       refine st_q rfl rfl rfl (rd_loadK 0 (by kernel_rfl) hH rfl rfl rfl) ?_
       refine ⟨hS9, ?_⟩
       refine gdk [(0, Pp db 0), (1, .slice Ak ks.length ck), (6, Pp fb 0), (12, .slice A6 D.fs.length c7), (13, Ni D.fs.length), (14, Ni i), (29, Pp fb 0), (32, Ni f.sure), (36, .int .i64 (ks.getD i 0)), (47, Ni ((f.b.length - f.sure) + 1))] ?_
       refine gds 19 (st_call rfl rfl rfl (by kernel_rfl) rfl (Modulo_ct (ks.getD i 0) ((f.b.length - f.sure) + 1) _ (by omega) (by omega)) ?_)
       rintro _ w36 ⟨rfl, hF37⟩
       replace hH := hH.call hF37; clear hF37
       replace hS9 := hH.sublist (slc (slk (slk (slk (slk (slk (slk sln)))))))
       refine ⟨hS9, ?_⟩
       refine gdo 1 [20] [(0, Pp db 0), (1, .slice Ak ks.length ck), (6, Pp fb 0), (12, .slice A6 D.fs.length c7), (13, Ni D.fs.length), (14, Ni i), (29, Pp fb 0), (32, Ni f.sure), (48, Ni (modI (ks.getD i 0) ((f.b.length - f.sure) + 1))), (49, .int .i64 (IntKind.i64.wrap (((f.sure : Nat) : Int) + ((modI (ks.getD i 0) ((f.b.length - f.sure) + 1) : Nat) : Int))))] hS9 (PQ.th (PQ.bk (PQ.th (PQ.th (PQ.bk (PQ.th PQ.body)))))) ?_
       refine gd_cv 49 (Ni (f.sure + (modI (ks.getD i 0) ((f.b.length - f.sure) + 1)))) (cv_i64 (by omega)) rfl ?_
       refine gdo 2 [21,22] [(0, Pp db 0), (1, .slice Ak ks.length ck), (6, Pp fb 0), (12, .slice A6 D.fs.length c7), (13, Ni D.fs.length), (14, Ni i), (49, Ni (f.sure + (modI (ks.getD i 0) ((f.b.length - f.sure) + 1)))), (51, Pp fb 1)] hS9 (PQ.th (PQ.bk (PQ.th (PQ.th (PQ.bk (PQ.th PQ.body)))))) ?_
       refine gds 23 (st_storeK (v := Ni (f.sure + (modI (ks.getD i 0) ((f.b.length - f.sure) + 1)))) 0 rfl rfl rfl hH rfl rfl rfl (by kernel_rfl) rfl (by simp) ?_)
       clear hH; intro w38 hH
       replace hS9 := hH.sublist (slc (slk (slk (slk (slk (slk (slk sln)))))))
       refine ⟨hS9, ?_⟩
       refine gdn [(0, Pp db 0), (1, .slice Ak ks.length ck), (6, Pp fb 0), (12, .slice A6 D.fs.length c7), (13, Ni D.fs.length), (14, Ni i)] ?_
       refine cut_end (f.sure + (modI (ks.getD i 0) ((f.b.length - f.sure) + 1))) (Sub.of_eq (by kernel_rfl)) ?_
       exact ⟨by unfold startS; rw [if_pos (by omega)], hH⟩
      ·
       refine st_call rfl rfl rfl (by kernel_rfl) rfl (Modulo_ct (ks.getD i 0) ((f.b.length - f.sure) + 1) _ (by omega) (by omega)) ?_
       rintro _ w39 ⟨rfl, hF40⟩
       replace hH := hH.call hF40; clear hF40
       replace hS9 := hH.sublist (slc (slk (slk (slk (slk (slk (slk sln)))))))
       refine ⟨hS9, ?_⟩
       refine gdk [(0, Pp db 0), (1, .slice Ak ks.length ck), (6, Pp fb 0), (12, .slice A6 D.fs.length c7), (13, Ni D.fs.length), (14, Ni i), (29, Pp fb 0), (31, Pp fb 1), (48, Ni (modI (ks.getD i 0) ((f.b.length - f.sure) + 1)))] ?_
       refine gds 3 (st_q rfl rfl rfl (rd_loadK 0 (by kernel_rfl) hH rfl rfl rfl) ?_)
       refine ⟨hS9, ?_⟩
       refine gdo 1 [20] [(0, Pp db 0), (1, .slice Ak ks.length ck), (6, Pp fb 0), (12, .slice A6 D.fs.length c7), (13, Ni D.fs.length), (14, Ni i), (29, Pp fb 0), (32, Ni f.sure), (48, Ni (modI (ks.getD i 0) ((f.b.length - f.sure) + 1))), (49, .int .i64 (IntKind.i64.wrap (((f.sure : Nat) : Int) + ((modI (ks.getD i 0) ((f.b.length - f.sure) + 1) : Nat) : Int))))] hS9 (PQ.th (PQ.bk (PQ.th (PQ.th (PQ.bk (PQ.th PQ.body)))))) ?_
       refine gd_cv 49 (Ni (f.sure + (modI (ks.getD i 0) ((f.b.length - f.sure) + 1)))) (cv_i64 (by omega)) rfl ?_
       refine gdo 2 [21,22] [(0, Pp db 0), (1, .slice Ak ks.length ck), (6, Pp fb 0), (12, .slice A6 D.fs.length c7), (13, Ni D.fs.length), (14, Ni i), (49, Ni (f.sure + (modI (ks.getD i 0) ((f.b.length - f.sure) + 1)))), (51, Pp fb 1)] hS9 (PQ.th (PQ.bk (PQ.th (PQ.th (PQ.bk (PQ.th PQ.body)))))) ?_
       refine gds 23 (st_storeK (v := Ni (f.sure + (modI (ks.getD i 0) ((f.b.length - f.sure) + 1)))) 0 rfl rfl rfl hH rfl rfl rfl (by kernel_rfl) rfl (by simp) ?_)
       clear hH; intro w41 hH
       replace hS9 := hH.sublist (slc (slk (slk (slk (slk (slk (slk sln)))))))
       refine ⟨hS9, ?_⟩
       refine gdn [(0, Pp db 0), (1, .slice Ak ks.length ck), (6, Pp fb 0), (12, .slice A6 D.fs.length c7), (13, Ni D.fs.length), (14, Ni i)] ?_
       refine cut_end (f.sure + (modI (ks.getD i 0) ((f.b.length - f.sure) + 1))) (Sub.of_eq (by kernel_rfl)) ?_
       exact ⟨by unfold startS; rw [if_pos (by omega)], hH⟩
   try simp only [decide_eq_false_iff_not, Int.not_lt, Int.not_le] at hc2
   refine sw_skip ?_
   refine cut_end (f.sure) (Sub.of_eq (by kernel_rfl)) ?_
   exact ⟨by unfold startS; rw [if_neg (by omega)]; rfl, hH⟩
  clear hH
  rintro s1 w42 ⟨hs1, hH⟩
  have hsl := startS_le hsr i ks
  rw [← hs1] at hsl
  refine swk [(0, Pp db 0), (1, .slice Ak ks.length ck), (6, Pp fb 0), (12, .slice A6 D.fs.length c7), (13, Ni D.fs.length), (14, Ni i)] ?_
  refine sw_draw (by kernel_rfl) (fun w_ => Hp w w_ (off w (blksOf (ownD db mb ab D es))) (blksOf (ownD db mb ab D es)) [.vw (.slice Af f.b.length cf) 5 f.b, restO es2 (ixE es2 f.name), .blk db 70 [.map (some mb), .bool D.off, arV D.ar ab], .smap mb (kvE es2), .grp (armO D.ar ab), .row (.slice A6 D.fs.length c7) 9 1 D.fs.length (nmC D.fs)]) ?_
  replace hH := hH.drew
  generalize { w42 with drawn := w42.drawn + 1 } = w43 at hH ⊢
  have hS9 := hH.sublist (slc (slk (slk (slk (slk (slk (slk sln)))))))
  refine gdo 10 [0,1,2,3,5,6,7,9,10,11] [(0, Pp db 0), (1, .slice Ak ks.length ck), (12, .slice A6 D.fs.length c7), (13, Ni D.fs.length), (14, Ni i), (52, Pp fb 0), (55, Pp fb 0), (59, Pp fb 1), (63, Pp fb 1)] hS9 (PQ.bk (PQ.th (PQ.th (PQ.bk (PQ.th PQ.body))))) ?_
  refine gd_st3 4 8 12 (by kernel_rfl) ?_ ?_ ?_
  ·
   refine st_q rfl rfl rfl (rd_loadK 0 (by kernel_rfl) hH rfl rfl rfl) ?_
   refine ⟨hS9, ?_⟩
   refine gdk [(0, Pp db 0), (1, .slice Ak ks.length ck), (12, .slice A6 D.fs.length c7), (13, Ni D.fs.length), (14, Ni i), (52, Pp fb 0), (56, .slice Af f.b.length cf), (59, Pp fb 1), (63, Pp fb 1)] ?_
   refine gd_st2 8 12 (by kernel_rfl) ?_ ?_
   ·
    refine st_q rfl rfl rfl (rd_loadK 0 (by kernel_rfl) hH rfl rfl rfl) ?_
    refine ⟨hS9, ?_⟩
    refine gdk [(0, Pp db 0), (1, .slice Ak ks.length ck), (12, .slice A6 D.fs.length c7), (13, Ni D.fs.length), (14, Ni i), (52, Pp fb 0), (56, .slice Af f.b.length cf), (60, Ni s1), (63, Pp fb 1)] ?_
    refine gds 12 (st_q rfl rfl rfl (rd_loadK 0 (by kernel_rfl) hH rfl rfl rfl) ?_)
    refine ⟨hS9, ?_⟩
    refine gdq 13 rfl (fun w_ hS => (rd_cut3 (e := 5) (m := 1) (by kernel_rfl) (by kernel_rfl) rfl (.inl ⟨rfl, rfl⟩) rfl rfl (cut3_front Af f.b.length cf s1 1 (by omega)))) hS9 (PQ.bk (PQ.th (PQ.th (PQ.bk (PQ.th PQ.body))))) ?_
    refine gdk [(0, Pp db 0), (1, .slice Ak ks.length ck), (12, .slice A6 D.fs.length c7), (13, Ni D.fs.length), (14, Ni i), (52, Pp fb 0), (65, .slice Af s1 s1)] ?_
    refine gdo 2 [14,15] [(0, Pp db 0), (1, .slice Ak ks.length ck), (12, .slice A6 D.fs.length c7), (13, Ni D.fs.length), (14, Ni i), (65, .slice Af s1 s1), (67, Pp fb 0)] hS9 (PQ.bk (PQ.th (PQ.th (PQ.bk (PQ.th PQ.body))))) ?_
    refine gds 16 (st_storeK (v := .slice Af s1 s1) 0 rfl rfl rfl hH rfl rfl rfl (by kernel_rfl) rfl (by simp) ?_)
    clear hH; intro w44 hH
    replace hS9 := hH.sublist (slc (slk (slk (slk (slk (slk (slk sln)))))))
    refine ⟨hS9, ?_⟩
    refine gdn [(0, Pp db 0), (1, .slice Ak ks.length ck), (12, .slice A6 D.fs.length c7), (13, Ni D.fs.length), (14, Ni i)] ?_
    refine bkN ?_
    refine sw_next ?_
    refine sw_region ?_
    refine glo 1 [(0, Pp db 0), (1, .slice Ak ks.length ck), (12, .slice A6 D.fs.length c7), (13, Ni D.fs.length), (68, .int .i64 (IntKind.i64.wrap (((i : Nat) : Int) + 1)))] ?_
    refine gl_cv 68 (Ni (i + 1)) (cv_i64 (by omega)) rfl ?_
    refine glo 1 [(0, Pp db 0), (1, .slice Ak ks.length ck), (12, .slice A6 D.fs.length c7), (13, Ni D.fs.length), (14, Ni (i + 1))] ?_
    refine gl_done rfl ?_
    refine rnd_end (g := (i, es2)) (i + 1, es2.set (ixE es2 f.name) ⟨f.name, fb, .slice Af s1 s1, f.b.take s1, s1⟩) (by kernel_rfl) ?_ ?_
    replace hH := hH.fr2
    replace hH := hH.cut_vw s1 (by omega)
    replace hH := hH.fr3.fr2.fr3
    replace hH : Hp w w44 _ _ (f1O ⟨f.name, fb, .slice Af s1 s1, f.b.take s1, s1⟩ :: f2O ⟨f.name, fb, .slice Af s1 s1, f.b.take s1, s1⟩ :: restO es2 (ixE es2 f.name) :: [.blk db 70 [.map (some mb), .bool D.off, arV D.ar ab], .smap mb (kvE es2), .grp (armO D.ar ab), .row (.slice A6 D.fs.length c7) 9 1 D.fs.length (nmC D.fs)]) := hH
    replace hH := fil_in hlt hH
    have hkv : kvE es2 = kvE (es2.set (ixE es2 f.name) ⟨f.name, fb, .slice Af s1 s1, f.b.take s1, s1⟩) := (kvE_set (e' := ⟨f.name, fb, .slice Af s1 s1, f.b.take s1, s1⟩) he rfl rfl).symm
    replace hH := hH.cast (os' := [filsO (es2.set (ixE es2 f.name) ⟨f.name, fb, .slice Af s1 s1, f.b.take s1, s1⟩), .blk db 70 [.map (some mb), .bool D.off, arV D.ar ab], .smap mb (kvE (es2.set (ixE es2 f.name) ⟨f.name, fb, .slice Af s1 s1, f.b.take s1, s1⟩)), .grp (armO D.ar ab), .row (.slice A6 D.fs.length c7) 9 1 D.fs.length (nmC D.fs)]) (by rw [← hkv])
    replace hH := hH.fr5.fr5.fr3.fr5.fr5
    · exact ⟨by omega, part_rep hG.srt hR2 hf he ⟨f.name, fb, .slice Af s1 s1, f.b.take s1, s1⟩ rfl (by unfold startF1; rw [← hs1]; rfl), hH⟩
    · show D.fs.length - (i + 1) < D.fs.length - i; omega
   ·
    refine st_q rfl rfl rfl (rd_loadK 0 (by kernel_rfl) hH rfl rfl rfl) ?_
    refine ⟨hS9, ?_⟩
    refine gdk [(0, Pp db 0), (1, .slice Ak ks.length ck), (12, .slice A6 D.fs.length c7), (13, Ni D.fs.length), (14, Ni i), (52, Pp fb 0), (56, .slice Af f.b.length cf), (59, Pp fb 1), (64, Ni s1)] ?_
    refine gds 8 (st_q rfl rfl rfl (rd_loadK 0 (by kernel_rfl) hH rfl rfl rfl) ?_)
    refine ⟨hS9, ?_⟩
    refine gdq 13 rfl (fun w_ hS => (rd_cut3 (e := 5) (m := 1) (by kernel_rfl) (by kernel_rfl) rfl (.inl ⟨rfl, rfl⟩) rfl rfl (cut3_front Af f.b.length cf s1 1 (by omega)))) hS9 (PQ.bk (PQ.th (PQ.th (PQ.bk (PQ.th PQ.body))))) ?_
    refine gdk [(0, Pp db 0), (1, .slice Ak ks.length ck), (12, .slice A6 D.fs.length c7), (13, Ni D.fs.length), (14, Ni i), (52, Pp fb 0), (65, .slice Af s1 s1)] ?_
    refine gdo 2 [14,15] [(0, Pp db 0), (1, .slice Ak ks.length ck), (12, .slice A6 D.fs.length c7), (13, Ni D.fs.length), (14, Ni i), (65, .slice Af s1 s1), (67, Pp fb 0)] hS9 (PQ.bk (PQ.th (PQ.th (PQ.bk (PQ.th PQ.body))))) ?_
    refine gds 16 (st_storeK (v := .slice Af s1 s1) 0 rfl rfl rfl hH rfl rfl rfl (by kernel_rfl) rfl (by simp) ?_)
    clear hH; intro w45 hH
    replace hS9 := hH.sublist (slc (slk (slk (slk (slk (slk (slk sln)))))))
    refine ⟨hS9, ?_⟩
    refine gdn [(0, Pp db 0), (1, .slice Ak ks.length ck), (12, .slice A6 D.fs.length c7), (13, Ni D.fs.length), (14, Ni i)] ?_
    refine bkN ?_
    refine sw_next ?_
    refine sw_region ?_
    refine glo 1 [(0, Pp db 0), (1, .slice Ak ks.length ck), (12, .slice A6 D.fs.length c7), (13, Ni D.fs.length), (68, .int .i64 (IntKind.i64.wrap (((i : Nat) : Int) + 1)))] ?_
    refine gl_cv 68 (Ni (i + 1)) (cv_i64 (by omega)) rfl ?_
    refine glo 1 [(0, Pp db 0), (1, .slice Ak ks.length ck), (12, .slice A6 D.fs.length c7), (13, Ni D.fs.length), (14, Ni (i + 1))] ?_
    refine gl_done rfl ?_
    refine rnd_end (g := (i, es2)) (i + 1, es2.set (ixE es2 f.name) ⟨f.name, fb, .slice Af s1 s1, f.b.take s1, s1⟩) (by kernel_rfl) ?_ ?_
    replace hH := hH.fr2
    replace hH := hH.cut_vw s1 (by omega)
    replace hH := hH.fr3.fr2.fr3
    replace hH : Hp w w45 _ _ (f1O ⟨f.name, fb, .slice Af s1 s1, f.b.take s1, s1⟩ :: f2O ⟨f.name, fb, .slice Af s1 s1, f.b.take s1, s1⟩ :: restO es2 (ixE es2 f.name) :: [.blk db 70 [.map (some mb), .bool D.off, arV D.ar ab], .smap mb (kvE es2), .grp (armO D.ar ab), .row (.slice A6 D.fs.length c7) 9 1 D.fs.length (nmC D.fs)]) := hH
    replace hH := fil_in hlt hH
    have hkv : kvE es2 = kvE (es2.set (ixE es2 f.name) ⟨f.name, fb, .slice Af s1 s1, f.b.take s1, s1⟩) := (kvE_set (e' := ⟨f.name, fb, .slice Af s1 s1, f.b.take s1, s1⟩) he rfl rfl).symm
    replace hH := hH.cast (os' := [filsO (es2.set (ixE es2 f.name) ⟨f.name, fb, .slice Af s1 s1, f.b.take s1, s1⟩), .blk db 70 [.map (some mb), .bool D.off, arV D.ar ab], .smap mb (kvE (es2.set (ixE es2 f.name) ⟨f.name, fb, .slice Af s1 s1, f.b.take s1, s1⟩)), .grp (armO D.ar ab), .row (.slice A6 D.fs.length c7) 9 1 D.fs.length (nmC D.fs)]) (by rw [← hkv])
    replace hH := hH.fr5.fr5.fr3.fr5.fr5
    · exact ⟨by omega, part_rep hG.srt hR2 hf he ⟨f.name, fb, .slice Af s1 s1, f.b.take s1, s1⟩ rfl (by unfold startF1; rw [← hs1]; rfl), hH⟩
    · show D.fs.length - (i + 1) < D.fs.length - i; omega
  ·
   refine st_q rfl rfl rfl (rd_loadK 0 (by kernel_rfl) hH rfl rfl rfl) ?_
   refine ⟨hS9, ?_⟩
   refine gdk [(0, Pp db 0), (1, .slice Ak ks.length ck), (12, .slice A6 D.fs.length c7), (13, Ni D.fs.length), (14, Ni i), (52, Pp fb 0), (55, Pp fb 0), (60, Ni s1), (63, Pp fb 1)] ?_
   refine gd_st2 4 12 (by kernel_rfl) ?_ ?_
   ·
    refine st_q rfl rfl rfl (rd_loadK 0 (by kernel_rfl) hH rfl rfl rfl) ?_
    refine ⟨hS9, ?_⟩
    refine gdk [(0, Pp db 0), (1, .slice Ak ks.length ck), (12, .slice A6 D.fs.length c7), (13, Ni D.fs.length), (14, Ni i), (52, Pp fb 0), (56, .slice Af f.b.length cf), (60, Ni s1), (63, Pp fb 1)] ?_
    refine gds 12 (st_q rfl rfl rfl (rd_loadK 0 (by kernel_rfl) hH rfl rfl rfl) ?_)
    refine ⟨hS9, ?_⟩
    refine gdq 13 rfl (fun w_ hS => (rd_cut3 (e := 5) (m := 1) (by kernel_rfl) (by kernel_rfl) rfl (.inl ⟨rfl, rfl⟩) rfl rfl (cut3_front Af f.b.length cf s1 1 (by omega)))) hS9 (PQ.bk (PQ.th (PQ.th (PQ.bk (PQ.th PQ.body))))) ?_
    refine gdk [(0, Pp db 0), (1, .slice Ak ks.length ck), (12, .slice A6 D.fs.length c7), (13, Ni D.fs.length), (14, Ni i), (52, Pp fb 0), (65, .slice Af s1 s1)] ?_
    refine gdo 2 [14,15] [(0, Pp db 0), (1, .slice Ak ks.length ck), (12, .slice A6 D.fs.length c7), (13, Ni D.fs.length), (14, Ni i), (65, .slice Af s1 s1), (67, Pp fb 0)] hS9 (PQ.bk (PQ.th (PQ.th (PQ.bk (PQ.th PQ.body))))) ?_
    refine gds 16 (st_storeK (v := .slice Af s1 s1) 0 rfl rfl rfl hH rfl rfl rfl (by kernel_rfl) rfl (by simp) ?_)
    clear hH; intro w46 hH
    replace hS9 := hH.sublist (slc (slk (slk (slk (slk (slk (slk sln)))))))
    refine ⟨hS9, ?_⟩
    refine gdn [(0, Pp db 0), (1, .slice Ak ks.length ck), (12, .slice A6 D.fs.length c7), (13, Ni D.fs.length), (14, Ni i)] ?_
    refine bkN ?_
    refine sw_next ?_
    refine sw_region ?_
    refine glo 1 [(0, Pp db 0), (1, .slice Ak ks.length ck), (12, .slice A6 D.fs.length c7), (13, Ni D.fs.length), (68, .int .i64 (IntKind.i64.wrap (((i : Nat) : Int) + 1)))] ?_
    refine gl_cv 68 (Ni (i + 1)) (cv_i64 (by omega)) rfl ?_
    refine glo 1 [(0, Pp db 0), (1, .slice Ak ks.length ck), (12, .slice A6 D.fs.length c7), (13, Ni D.fs.length), (14, Ni (i + 1))] ?_
    refine gl_done rfl ?_
    refine rnd_end (g := (i, es2)) (i + 1, es2.set (ixE es2 f.name) ⟨f.name, fb, .slice Af s1 s1, f.b.take s1, s1⟩) (by kernel_rfl) ?_ ?_
    replace hH := hH.fr2
    replace hH := hH.cut_vw s1 (by omega)
    replace hH := hH.fr3.fr2.fr3
    replace hH : Hp w w46 _ _ (f1O ⟨f.name, fb, .slice Af s1 s1, f.b.take s1, s1⟩ :: f2O ⟨f.name, fb, .slice Af s1 s1, f.b.take s1, s1⟩ :: restO es2 (ixE es2 f.name) :: [.blk db 70 [.map (some mb), .bool D.off, arV D.ar ab], .smap mb (kvE es2), .grp (armO D.ar ab), .row (.slice A6 D.fs.length c7) 9 1 D.fs.length (nmC D.fs)]) := hH
    replace hH := fil_in hlt hH
    have hkv : kvE es2 = kvE (es2.set (ixE es2 f.name) ⟨f.name, fb, .slice Af s1 s1, f.b.take s1, s1⟩) := (kvE_set (e' := ⟨f.name, fb, .slice Af s1 s1, f.b.take s1, s1⟩) he rfl rfl).symm
    replace hH := hH.cast (os' := [filsO (es2.set (ixE es2 f.name) ⟨f.name, fb, .slice Af s1 s1, f.b.take s1, s1⟩), .blk db 70 [.map (some mb), .bool D.off, arV D.ar ab], .smap mb (kvE (es2.set (ixE es2 f.name) ⟨f.name, fb, .slice Af s1 s1, f.b.take s1, s1⟩)), .grp (armO D.ar ab), .row (.slice A6 D.fs.length c7) 9 1 D.fs.length (nmC D.fs)]) (by rw [← hkv])
    replace hH := hH.fr5.fr5.fr3.fr5.fr5
    · exact ⟨by omega, part_rep hG.srt hR2 hf he ⟨f.name, fb, .slice Af s1 s1, f.b.take s1, s1⟩ rfl (by unfold startF1; rw [← hs1]; rfl), hH⟩
    · show D.fs.length - (i + 1) < D.fs.length - i; omega
   ·
    refine st_q rfl rfl rfl (rd_loadK 0 (by kernel_rfl) hH rfl rfl rfl) ?_
    refine ⟨hS9, ?_⟩
    refine gdk [(0, Pp db 0), (1, .slice Ak ks.length ck), (12, .slice A6 D.fs.length c7), (13, Ni D.fs.length), (14, Ni i), (52, Pp fb 0), (55, Pp fb 0), (60, Ni s1), (64, Ni s1)] ?_
    refine gds 4 (st_q rfl rfl rfl (rd_loadK 0 (by kernel_rfl) hH rfl rfl rfl) ?_)
    refine ⟨hS9, ?_⟩
    refine gdq 13 rfl (fun w_ hS => (rd_cut3 (e := 5) (m := 1) (by kernel_rfl) (by kernel_rfl) rfl (.inl ⟨rfl, rfl⟩) rfl rfl (cut3_front Af f.b.length cf s1 1 (by omega)))) hS9 (PQ.bk (PQ.th (PQ.th (PQ.bk (PQ.th PQ.body))))) ?_
    refine gdk [(0, Pp db 0), (1, .slice Ak ks.length ck), (12, .slice A6 D.fs.length c7), (13, Ni D.fs.length), (14, Ni i), (52, Pp fb 0), (65, .slice Af s1 s1)] ?_
    refine gdo 2 [14,15] [(0, Pp db 0), (1, .slice Ak ks.length ck), (12, .slice A6 D.fs.length c7), (13, Ni D.fs.length), (14, Ni i), (65, .slice Af s1 s1), (67, Pp fb 0)] hS9 (PQ.bk (PQ.th (PQ.th (PQ.bk (PQ.th PQ.body))))) ?_
    refine gds 16 (st_storeK (v := .slice Af s1 s1) 0 rfl rfl rfl hH rfl rfl rfl (by kernel_rfl) rfl (by simp) ?_)
    clear hH; intro w47 hH
    replace hS9 := hH.sublist (slc (slk (slk (slk (slk (slk (slk sln)))))))
    refine ⟨hS9, ?_⟩
    refine gdn [(0, Pp db 0), (1, .slice Ak ks.length ck), (12, .slice A6 D.fs.length c7), (13, Ni D.fs.length), (14, Ni i)] ?_
    refine bkN ?_
    refine sw_next ?_
    refine sw_region ?_
    refine glo 1 [(0, Pp db 0), (1, .slice Ak ks.length ck), (12, .slice A6 D.fs.length c7), (13, Ni D.fs.length), (68, .int .i64 (IntKind.i64.wrap (((i : Nat) : Int) + 1)))] ?_
    refine gl_cv 68 (Ni (i + 1)) (cv_i64 (by omega)) rfl ?_
    refine glo 1 [(0, Pp db 0), (1, .slice Ak ks.length ck), (12, .slice A6 D.fs.length c7), (13, Ni D.fs.length), (14, Ni (i + 1))] ?_
    refine gl_done rfl ?_
    refine rnd_end (g := (i, es2)) (i + 1, es2.set (ixE es2 f.name) ⟨f.name, fb, .slice Af s1 s1, f.b.take s1, s1⟩) (by kernel_rfl) ?_ ?_
    replace hH := hH.fr2
    replace hH := hH.cut_vw s1 (by omega)
    replace hH := hH.fr3.fr2.fr3
    replace hH : Hp w w47 _ _ (f1O ⟨f.name, fb, .slice Af s1 s1, f.b.take s1, s1⟩ :: f2O ⟨f.name, fb, .slice Af s1 s1, f.b.take s1, s1⟩ :: restO es2 (ixE es2 f.name) :: [.blk db 70 [.map (some mb), .bool D.off, arV D.ar ab], .smap mb (kvE es2), .grp (armO D.ar ab), .row (.slice A6 D.fs.length c7) 9 1 D.fs.length (nmC D.fs)]) := hH
    replace hH := fil_in hlt hH
    have hkv : kvE es2 = kvE (es2.set (ixE es2 f.name) ⟨f.name, fb, .slice Af s1 s1, f.b.take s1, s1⟩) := (kvE_set (e' := ⟨f.name, fb, .slice Af s1 s1, f.b.take s1, s1⟩) he rfl rfl).symm
    replace hH := hH.cast (os' := [filsO (es2.set (ixE es2 f.name) ⟨f.name, fb, .slice Af s1 s1, f.b.take s1, s1⟩), .blk db 70 [.map (some mb), .bool D.off, arV D.ar ab], .smap mb (kvE (es2.set (ixE es2 f.name) ⟨f.name, fb, .slice Af s1 s1, f.b.take s1, s1⟩)), .grp (armO D.ar ab), .row (.slice A6 D.fs.length c7) 9 1 D.fs.length (nmC D.fs)]) (by rw [← hkv])
    replace hH := hH.fr5.fr5.fr3.fr5.fr5
    · exact ⟨by omega, part_rep hG.srt hR2 hf he ⟨f.name, fb, .slice Af s1 s1, f.b.take s1, s1⟩ rfl (by unfold startF1; rw [← hs1]; rfl), hH⟩
    · show D.fs.length - (i + 1) < D.fs.length - i; omega
  ·
   refine st_q rfl rfl rfl (rd_loadK 0 (by kernel_rfl) hH rfl rfl rfl) ?_
   refine ⟨hS9, ?_⟩
   refine gdk [(0, Pp db 0), (1, .slice Ak ks.length ck), (12, .slice A6 D.fs.length c7), (13, Ni D.fs.length), (14, Ni i), (52, Pp fb 0), (55, Pp fb 0), (59, Pp fb 1), (64, Ni s1)] ?_
   refine gd_st2 4 8 (by kernel_rfl) ?_ ?_
   ·
    refine st_q rfl rfl rfl (rd_loadK 0 (by kernel_rfl) hH rfl rfl rfl) ?_
    refine ⟨hS9, ?_⟩
    refine gdk [(0, Pp db 0), (1, .slice Ak ks.length ck), (12, .slice A6 D.fs.length c7), (13, Ni D.fs.length), (14, Ni i), (52, Pp fb 0), (56, .slice Af f.b.length cf), (59, Pp fb 1), (64, Ni s1)] ?_
    refine gds 8 (st_q rfl rfl rfl (rd_loadK 0 (by kernel_rfl) hH rfl rfl rfl) ?_)
    refine ⟨hS9, ?_⟩
    refine gdq 13 rfl (fun w_ hS => (rd_cut3 (e := 5) (m := 1) (by kernel_rfl) (by kernel_rfl) rfl (.inl ⟨rfl, rfl⟩) rfl rfl (cut3_front Af f.b.length cf s1 1 (by omega)))) hS9 (PQ.bk (PQ.th (PQ.th (PQ.bk (PQ.th PQ.body))))) ?_
    refine gdk [(0, Pp db 0), (1, .slice Ak ks.length ck), (12, .slice A6 D.fs.length c7), (13, Ni D.fs.length), (14, Ni i), (52, Pp fb 0), (65, .slice Af s1 s1)] ?_
    refine gdo 2 [14,15] [(0, Pp db 0), (1, .slice Ak ks.length ck), (12, .slice A6 D.fs.length c7), (13, Ni D.fs.length), (14, Ni i), (65, .slice Af s1 s1), (67, Pp fb 0)] hS9 (PQ.bk (PQ.th (PQ.th (PQ.bk (PQ.th PQ.body))))) ?_
    refine gds 16 (st_storeK (v := .slice Af s1 s1) 0 rfl rfl rfl hH rfl rfl rfl (by kernel_rfl) rfl (by simp) ?_)
    clear hH; intro w48 hH
    replace hS9 := hH.sublist (slc (slk (slk (slk (slk (slk (slk sln)))))))
    refine ⟨hS9, ?_⟩
    refine gdn [(0, Pp db 0), (1, .slice Ak ks.length ck), (12, .slice A6 D.fs.length c7), (13, Ni D.fs.length), (14, Ni i)] ?_
    refine bkN ?_
    refine sw_next ?_
    refine sw_region ?_
    refine glo 1 [(0, Pp db 0), (1, .slice Ak ks.length ck), (12, .slice A6 D.fs.length c7), (13, Ni D.fs.length), (68, .int .i64 (IntKind.i64.wrap (((i : Nat) : Int) + 1)))] ?_
    refine gl_cv 68 (Ni (i + 1)) (cv_i64 (by omega)) rfl ?_
    refine glo 1 [(0, Pp db 0), (1, .slice Ak ks.length ck), (12, .slice A6 D.fs.length c7), (13, Ni D.fs.length), (14, Ni (i + 1))] ?_
    refine gl_done rfl ?_
    refine rnd_end (g := (i, es2)) (i + 1, es2.set (ixE es2 f.name) ⟨f.name, fb, .slice Af s1 s1, f.b.take s1, s1⟩) (by kernel_rfl) ?_ ?_
    replace hH := hH.fr2
    replace hH := hH.cut_vw s1 (by omega)
    replace hH := hH.fr3.fr2.fr3
    replace hH : Hp w w48 _ _ (f1O ⟨f.name, fb, .slice Af s1 s1, f.b.take s1, s1⟩ :: f2O ⟨f.name, fb, .slice Af s1 s1, f.b.take s1, s1⟩ :: restO es2 (ixE es2 f.name) :: [.blk db 70 [.map (some mb), .bool D.off, arV D.ar ab], .smap mb (kvE es2), .grp (armO D.ar ab), .row (.slice A6 D.fs.length c7) 9 1 D.fs.length (nmC D.fs)]) := hH
    replace hH := fil_in hlt hH
    have hkv : kvE es2 = kvE (es2.set (ixE es2 f.name) ⟨f.name, fb, .slice Af s1 s1, f.b.take s1, s1⟩) := (kvE_set (e' := ⟨f.name, fb, .slice Af s1 s1, f.b.take s1, s1⟩) he rfl rfl).symm
    replace hH := hH.cast (os' := [filsO (es2.set (ixE es2 f.name) ⟨f.name, fb, .slice Af s1 s1, f.b.take s1, s1⟩), .blk db 70 [.map (some mb), .bool D.off, arV D.ar ab], .smap mb (kvE (es2.set (ixE es2 f.name) ⟨f.name, fb, .slice Af s1 s1, f.b.take s1, s1⟩)), .grp (armO D.ar ab), .row (.slice A6 D.fs.length c7) 9 1 D.fs.length (nmC D.fs)]) (by rw [← hkv])
    replace hH := hH.fr5.fr5.fr3.fr5.fr5
    · exact ⟨by omega, part_rep hG.srt hR2 hf he ⟨f.name, fb, .slice Af s1 s1, f.b.take s1, s1⟩ rfl (by unfold startF1; rw [← hs1]; rfl), hH⟩
    · show D.fs.length - (i + 1) < D.fs.length - i; omega
   ·
    refine st_q rfl rfl rfl (rd_loadK 0 (by kernel_rfl) hH rfl rfl rfl) ?_
    refine ⟨hS9, ?_⟩
    refine gdk [(0, Pp db 0), (1, .slice Ak ks.length ck), (12, .slice A6 D.fs.length c7), (13, Ni D.fs.length), (14, Ni i), (52, Pp fb 0), (55, Pp fb 0), (60, Ni s1), (64, Ni s1)] ?_
    refine gds 4 (st_q rfl rfl rfl (rd_loadK 0 (by kernel_rfl) hH rfl rfl rfl) ?_)
    refine ⟨hS9, ?_⟩
    refine gdq 13 rfl (fun w_ hS => (rd_cut3 (e := 5) (m := 1) (by kernel_rfl) (by kernel_rfl) rfl (.inl ⟨rfl, rfl⟩) rfl rfl (cut3_front Af f.b.length cf s1 1 (by omega)))) hS9 (PQ.bk (PQ.th (PQ.th (PQ.bk (PQ.th PQ.body))))) ?_
    refine gdk [(0, Pp db 0), (1, .slice Ak ks.length ck), (12, .slice A6 D.fs.length c7), (13, Ni D.fs.length), (14, Ni i), (52, Pp fb 0), (65, .slice Af s1 s1)] ?_
    refine gdo 2 [14,15] [(0, Pp db 0), (1, .slice Ak ks.length ck), (12, .slice A6 D.fs.length c7), (13, Ni D.fs.length), (14, Ni i), (65, .slice Af s1 s1), (67, Pp fb 0)] hS9 (PQ.bk (PQ.th (PQ.th (PQ.bk (PQ.th PQ.body))))) ?_
    refine gds 16 (st_storeK (v := .slice Af s1 s1) 0 rfl rfl rfl hH rfl rfl rfl (by kernel_rfl) rfl (by simp) ?_)
    clear hH; intro w49 hH
    replace hS9 := hH.sublist (slc (slk (slk (slk (slk (slk (slk sln)))))))
    refine ⟨hS9, ?_⟩
    refine gdn [(0, Pp db 0), (1, .slice Ak ks.length ck), (12, .slice A6 D.fs.length c7), (13, Ni D.fs.length), (14, Ni i)] ?_
    refine bkN ?_
    refine sw_next ?_
    refine sw_region ?_
    refine glo 1 [(0, Pp db 0), (1, .slice Ak ks.length ck), (12, .slice A6 D.fs.length c7), (13, Ni D.fs.length), (68, .int .i64 (IntKind.i64.wrap (((i : Nat) : Int) + 1)))] ?_
    refine gl_cv 68 (Ni (i + 1)) (cv_i64 (by omega)) rfl ?_
    refine glo 1 [(0, Pp db 0), (1, .slice Ak ks.length ck), (12, .slice A6 D.fs.length c7), (13, Ni D.fs.length), (14, Ni (i + 1))] ?_
    refine gl_done rfl ?_
    refine rnd_end (g := (i, es2)) (i + 1, es2.set (ixE es2 f.name) ⟨f.name, fb, .slice Af s1 s1, f.b.take s1, s1⟩) (by kernel_rfl) ?_ ?_
    replace hH := hH.fr2
    replace hH := hH.cut_vw s1 (by omega)
    replace hH := hH.fr3.fr2.fr3
    replace hH : Hp w w49 _ _ (f1O ⟨f.name, fb, .slice Af s1 s1, f.b.take s1, s1⟩ :: f2O ⟨f.name, fb, .slice Af s1 s1, f.b.take s1, s1⟩ :: restO es2 (ixE es2 f.name) :: [.blk db 70 [.map (some mb), .bool D.off, arV D.ar ab], .smap mb (kvE es2), .grp (armO D.ar ab), .row (.slice A6 D.fs.length c7) 9 1 D.fs.length (nmC D.fs)]) := hH
    replace hH := fil_in hlt hH
    have hkv : kvE es2 = kvE (es2.set (ixE es2 f.name) ⟨f.name, fb, .slice Af s1 s1, f.b.take s1, s1⟩) := (kvE_set (e' := ⟨f.name, fb, .slice Af s1 s1, f.b.take s1, s1⟩) he rfl rfl).symm
    replace hH := hH.cast (os' := [filsO (es2.set (ixE es2 f.name) ⟨f.name, fb, .slice Af s1 s1, f.b.take s1, s1⟩), .blk db 70 [.map (some mb), .bool D.off, arV D.ar ab], .smap mb (kvE (es2.set (ixE es2 f.name) ⟨f.name, fb, .slice Af s1 s1, f.b.take s1, s1⟩)), .grp (armO D.ar ab), .row (.slice A6 D.fs.length c7) 9 1 D.fs.length (nmC D.fs)]) (by rw [← hkv])
    replace hH := hH.fr5.fr5.fr3.fr5.fr5
    · exact ⟨by omega, part_rep hG.srt hR2 hf he ⟨f.name, fb, .slice Af s1 s1, f.b.take s1, s1⟩ rfl (by unfold startF1; rw [← hs1]; rfl), hH⟩
    · show D.fs.length - (i + 1) < D.fs.length - i; omega
 try simp only [decide_eq_false_iff_not, Int.not_lt, Int.not_le] at hc1
 refine sw_exit ?_
 refine thX ?_
 refine thX ?_
 refine bkH ?_
 refine sw_next ?_
 refine sw_region ?_
 refine glo 4 [(70, Pp db 0), (72, Pp db 1)] ?_
 refine gl_st (st_storeK (v := .bool false) 0 rfl rfl rfl hH rfl rfl rfl (by kernel_rfl) rfl (by simp) ?_)
 clear hH; intro w50 hH
 refine glo 2 [(74, Pp db 2)] ?_
 refine gl_st (st_storeK (v := .pointer none) 0 rfl rfl rfl hH rfl rfl rfl (by kernel_rfl) rfl (by simp) ?_)
 clear hH; intro w51 hH
 refine gl_done rfl ?_
 refine end0 rfl ?_
 replace hH : Hp w w51 _ _ [_, _, _] := (hH.sublist (slk (slk (slk sln))))
 have h3 := hH.nogrp
 have h4 : Hp w w51 _ _ (dskO db mb ab (startD D ks) es2 ++ []) := h3
 exact ⟨es2, rfl, by have h5 := hR2; rw [partF_all (show D.fs.length ≤ i by omega)] at h5; exact h5, h4.close.turned⟩
end Go.Proofs.YtajapgjemefoiaaGreatDoor
/- Layer 18 (disk), the document's own: Same: what it answers. -/
set_option maxRecDepth 100000
set_option maxHeartbeats 4000000
set_option linter.unusedVariables false
set_option linter.unusedSimpArgs false
namespace Go.Proofs.YtajapgjemefoiaaGreatDoor
open Go.RowKit Go.SW
abbrev FV := List (Fil × Value)
theorem map_fst_eq {qs rs : FV} (hl : qs.length = rs.length) (h : ∀ j : Nat, j < qs.length → ∀ q r, qs[j]? = some q → rs[j]? = some r → q.1 = r.1) : qs.map (·.1) = rs.map (·.1) := by
  apply List.ext_getElem?
  intro j
  rw [List.getElem?_map, List.getElem?_map]
  by_cases hj : j < qs.length
  · rw [List.getElem?_eq_getElem hj, List.getElem?_eq_getElem (show j < rs.length by omega)]
    simp only [Option.map_some]
    rw [h j hj _ _ (List.getElem?_eq_getElem hj) (List.getElem?_eq_getElem (by omega))]
  · rw [List.getElem?_eq_none (by omega), List.getElem?_eq_none (by omega)]
theorem map_fst_ne {qs rs : FV} {j : Nat} {q r : Fil × Value} (hq : qs[j]? = some q) (hr : rs[j]? = some r) (h : q.1 ≠ r.1) : ¬ qs.map (·.1) = rs.map (·.1) := by
  intro e
  have := congrArg (fun l => l[j]?) e
  simp only [List.getElem?_map, hq, hr, Option.map_some, Option.some.injEq] at this
  exact h this
theorem fil_ext {f g : Fil} (h1 : f.name = g.name) (h2 : f.sure = g.sure) (h3 : f.b = g.b) : f = g := by
  cases f; cases g; simp_all
theorem all_nx2 {qs rs : FV} {i : Nat} (h : ∀ j : Nat, j < i → ∀ q r, qs[j]? = some q → rs[j]? = some r → q.1 = r.1) {q r : Fil × Value} (hq : qs[i]? = some q) (hr : rs[i]? = some r) (e : q.1 = r.1) : ∀ j : Nat, j < i + 1 → ∀ q r, qs[j]? = some q → rs[j]? = some r → q.1 = r.1 := fun j hj q' r' h1 h2 => by
  rcases Nat.lt_succ_iff_lt_or_eq.1 hj with h3 | rfl
  · exact h j h3 q' r' h1 h2
  · rw [hq] at h1; rw [hr] at h2; cases h1; cases h2; exact e
section
variable {w w0 : World} {z : Zone} {F : List Nat} {os : List Own} {L : FV}
theorem rs_rbs (hH : Hp w0 w z F os) (k : Nat) (hk : os[k]? = some (filRs L)) : ∀ q ∈ L, RB w.cell? q.2 q.1.b := by
  intro q hq
  have h : ∀ o ∈ L.map filR, o.at w := hH.own _ (List.mem_of_getElem? hk)
  exact Row.of_own (h (filR q) (List.mem_map.2 ⟨q, hq, rfl⟩))
end

theorem Same18_ct (va vb : Value) (qs rs : FV) (w : World) (ha : Row w.cell? va 3 qs.length (rowC filC qs)) (hb : Row w.cell? vb 3 rs.length (rowC filC rs)) (hqa : ∀ q ∈ qs, RB w.cell? q.2 q.1.b) (hqb : ∀ q ∈ rs, RB w.cell? q.2 q.1.b) :
    Fun Tryz.prog 22 [va, vb] w fun v w' => ∃ b, v = .bool b ∧ (b = true ↔ qs.map (·.1) = rs.map (·.1)) ∧ Fresh w w' [] := by
 obtain ⟨Aa, ca, rfl, ha1, ha2⟩ := ha.form
 obtain ⟨Ab2, cb2, rfl, hb1, hb2⟩ := hb.form
 have ha3 := ha2
 simp only [maxLen] at ha3
 refine fun_of_sw Tryz.func22 rfl 56 rfl rfl ?_
 have hH := Hp.start w
 refine sw_sr ?_
 refine glo 1 [(0, .slice Aa qs.length ca), (1, .slice Ab2 rs.length cb2)] ?_
 refine gl_dn rfl ?_
 refine sw_seq ?_
 refine sw_sr ?_
 refine glo 1 [(0, .slice Aa qs.length ca), (1, .slice Ab2 rs.length cb2), (6, .slice Aa qs.length ca)] ?_
 refine gl_q rfl rfl rfl (rd_len (e := 83) (by kernel_rfl) rfl) ?_
 refine glo 1 [(0, .slice Aa qs.length ca), (1, .slice Ab2 rs.length cb2), (7, Ni qs.length), (8, .slice Ab2 rs.length cb2)] ?_
 refine gl_q rfl rfl rfl (rd_len (e := 83) (by kernel_rfl) rfl) ?_
 refine glo 1 [(0, .slice Aa qs.length ca), (1, .slice Ab2 rs.length cb2), (10, .bool (((qs.length : Nat) : Int) != ((rs.length : Nat) : Int)))] ?_
 refine gl_dn rfl ?_
 refine sw_cond rfl rfl (fun hc1 => ?_) (fun hc1 => ?_)
 ·
  try simp only [bne_iff_ne, ne_eq] at hc1
  refine sw_sr ?_
  refine glo 1 [(4, .bool false)] ?_
  refine gl_dn rfl ?_
  refine sw_ret ?_
  refine thR ?_
  refine ret1 rfl rfl  ?_
  first | exact ⟨false, rfl, ⟨fun h => Bool.noConfusion h, fun h => absurd h (map_fst_ne hq hr (fun e9 => hN0 (by rw [show q = r from e9])))⟩, (hH.sublist sln).fresh⟩ | exact ⟨false, rfl, ⟨fun h => Bool.noConfusion h, fun h => absurd h (map_fst_ne hq hr (fun e9 => absurd (show q.sure = r.sure by rw [show q = r from e9]) (by omega)))⟩, (hH.sublist sln).fresh⟩ | exact ⟨false, rfl, ⟨fun h => Bool.noConfusion h, fun h => absurd h (map_fst_ne hq hr (fun e9 => hB0 (by rw [show q = r from e9])))⟩, (hH.sublist sln).fresh⟩ | exact ⟨true, rfl, ⟨fun _ => map_fst_eq hlen (fun j hj => hall j (by omega)), fun _ => rfl⟩, hH.fresh⟩ | exact ⟨false, rfl, ⟨fun h => Bool.noConfusion h, fun h => absurd (congrArg List.length h) (by simp; omega)⟩, hH.fresh⟩
 try simp only [bne_eq_false_iff_eq] at hc1
 have hlen : qs.length = rs.length := by omega
 refine sw_skip ?_
 refine sw_next ?_
 refine sw_seq ?_
 refine sw_sr ?_
 refine glo 1 [(0, .slice Aa qs.length ca), (1, .slice Ab2 rs.length cb2), (5, .int .i64 0)] ?_
 refine gl_dn rfl ?_
 refine sw_block ?_
 refine sw_loop (γ := Nat) (fun i => [(0, .slice Aa qs.length ca), (1, .slice Ab2 rs.length cb2), (5, Ni i)]) (fun i w_ => (i ≤ qs.length) ∧ (∀ j : Nat, j < i → ∀ q r, qs[j]? = some q → rs[j]? = some r → q.1 = r.1) ∧ Hp w w_ (w.cell?) [] []) (fun i => qs.length - i) (0) (Sub.of_eq (by kernel_rfl)) ?_ ?_
 · exact ⟨by omega, fun j hj => absurd hj (by omega), hH⟩
 clear hH
 rintro i w1 ⟨hi, hall, hH⟩
 refine swk [(0, .slice Aa qs.length ca), (1, .slice Ab2 rs.length cb2), (5, Ni i)] ?_
 refine sw_seq ?_
 refine sw_sr ?_
 refine glo 2 [(0, .slice Aa qs.length ca), (1, .slice Ab2 rs.length cb2), (5, Ni i), (11, Ni i), (12, .slice Aa qs.length ca)] ?_
 refine gl_q rfl rfl rfl (rd_len (e := 83) (by kernel_rfl) rfl) ?_
 refine glo 1 [(0, .slice Aa qs.length ca), (1, .slice Ab2 rs.length cb2), (5, Ni i), (14, .bool (decide (((i : Nat) : Int) < ((qs.length : Nat) : Int))))] ?_
 refine gl_dn rfl ?_
 refine sw_cond rfl rfl (fun hc2 => ?_) (fun hc2 => ?_)
 ·
  try simp only [decide_eq_true_eq] at hc2
  refine sw_skip ?_
  refine sw_next ?_
  refine sw_seq ?_
  refine sw_block ?_
  refine sw_seq ?_
  obtain ⟨⟨q, uq⟩, hq⟩ : ∃ x, qs[i]? = some x := ⟨_, List.getElem?_eq_getElem (by omega)⟩
  have hbx : RB w.cell? uq q.b := hqa _ (List.mem_of_getElem? hq)
  obtain ⟨Ax, cx, rfl, hkx, hmx⟩ := hbx.row.form
  obtain ⟨⟨r, ur⟩, hr⟩ : ∃ x, rs[i]? = some x := ⟨_, List.getElem?_eq_getElem (by omega)⟩
  have hby : RB w.cell? ur r.b := hqb _ (List.mem_of_getElem? hr)
  obtain ⟨Ay, cy, rfl, hky, hmy⟩ := hby.row.form
  refine sw_draw (by kernel_rfl) (fun w_ => Hp w w_ (w.cell?) [] []) ?_
  replace hH := hH.drew
  generalize { w1 with drawn := w1.drawn + 1 } = w2 at hH ⊢
  have hS9 := hH.sublist sln
  obtain ⟨p3, hi5, hp4⟩ := ha.idx i (by omega) (by decide)
  refine gdo 2 [0,1] [(0, .slice Aa qs.length ca), (1, .slice Ab2 rs.length cb2), (5, Ni i), (17, .slice Aa qs.length ca), (18, Ni i)] hS9 (PQ.th (PQ.bk (PQ.th (PQ.th (PQ.bk (PQ.th PQ.body)))))) ?_
  refine gdq 2 rfl (fun w_ hS => (rd_idx (e := 83) (m := 3) (by kernel_rfl) (by kernel_rfl) rfl rfl hi5)) hS9 (PQ.th (PQ.bk (PQ.th (PQ.th (PQ.bk (PQ.th PQ.body)))))) ?_
  refine gdo 1 [3] [(0, .slice Aa qs.length ca), (1, .slice Ab2 rs.length cb2), (5, Ni i), (20, .pointer (some p3))] hS9 (PQ.th (PQ.bk (PQ.th (PQ.th (PQ.bk (PQ.th PQ.body)))))) ?_
  refine gdq 4 rfl (fun w_ hS => (rd_load (by kernel_rfl) rfl (hS.zin _ _ (hp4 0 _ (by decide) (rowC_at filC_len hq 0 (by decide) rfl))))) hS9 (PQ.th (PQ.bk (PQ.th (PQ.th (PQ.bk (PQ.th PQ.body)))))) ?_
  obtain ⟨p6, hi8, hp7⟩ := hb.idx i (by omega) (by decide)
  refine gdo 2 [5,6] [(0, .slice Aa qs.length ca), (1, .slice Ab2 rs.length cb2), (5, Ni i), (21, .string (bs q.name)), (22, .slice Ab2 rs.length cb2), (23, Ni i)] hS9 (PQ.th (PQ.bk (PQ.th (PQ.th (PQ.bk (PQ.th PQ.body)))))) ?_
  refine gdq 7 rfl (fun w_ hS => (rd_idx (e := 83) (m := 3) (by kernel_rfl) (by kernel_rfl) rfl rfl hi8)) hS9 (PQ.th (PQ.bk (PQ.th (PQ.th (PQ.bk (PQ.th PQ.body)))))) ?_
  refine gdo 1 [8] [(0, .slice Aa qs.length ca), (1, .slice Ab2 rs.length cb2), (5, Ni i), (21, .string (bs q.name)), (25, .pointer (some p6))] hS9 (PQ.th (PQ.bk (PQ.th (PQ.th (PQ.bk (PQ.th PQ.body)))))) ?_
  refine gdq 9 rfl (fun w_ hS => (rd_load (by kernel_rfl) rfl (hS.zin _ _ (hp7 0 _ (by decide) (rowC_at filC_len hr 0 (by decide) rfl))))) hS9 (PQ.th (PQ.bk (PQ.th (PQ.th (PQ.bk (PQ.th PQ.body)))))) ?_
  refine gdq 10 rfl (fun w_ hS => (rd_sneq (by kernel_rfl) rfl rfl)) hS9 (PQ.th (PQ.bk (PQ.th (PQ.th (PQ.bk (PQ.th PQ.body)))))) ?_
  refine gdo 1 [11] [(0, .slice Aa qs.length ca), (1, .slice Ab2 rs.length cb2), (5, Ni i), (28, .bool (!(q.name == r.name)))] hS9 (PQ.th (PQ.bk (PQ.th (PQ.th (PQ.bk (PQ.th PQ.body)))))) ?_
  refine gd_split 28 (b := !(q.name == r.name)) rfl (fun hg3 => ?_) (fun hg3 => ?_)
  ·
   try simp only [Bool.not_eq_true', beq_eq_false_iff_ne, ne_eq] at hg3
   have hN0 := hg3
   refine gdo 27 [12,13,14,15,16,17,18,19,20,21,22,23,24,25,26,27,28,29,30,31,32,33,34,35,36,37,38] [(0, .slice Aa qs.length ca), (1, .slice Ab2 rs.length cb2), (5, Ni i), (55, .bool true)] hS9 (PQ.th (PQ.bk (PQ.th (PQ.th (PQ.bk (PQ.th PQ.body)))))) ?_
   refine gdn [(0, .slice Aa qs.length ca), (1, .slice Ab2 rs.length cb2), (5, Ni i), (55, .bool true)] ?_
   refine sw_next ?_
   refine sw_true rfl rfl ?_
   refine sw_sr ?_
   refine glo 1 [(4, .bool false)] ?_
   refine gl_dn rfl ?_
   refine sw_ret ?_
   refine bkR ?_
   refine thR ?_
   refine thR ?_
   refine bkR ?_
   refine thR ?_
   refine ret1 rfl rfl  ?_
   first | exact ⟨false, rfl, ⟨fun h => Bool.noConfusion h, fun h => absurd h (map_fst_ne hq hr (fun e9 => hN0 (by rw [show q = r from e9])))⟩, (hH.sublist sln).fresh⟩ | exact ⟨false, rfl, ⟨fun h => Bool.noConfusion h, fun h => absurd h (map_fst_ne hq hr (fun e9 => absurd (show q.sure = r.sure by rw [show q = r from e9]) (by omega)))⟩, (hH.sublist sln).fresh⟩ | exact ⟨false, rfl, ⟨fun h => Bool.noConfusion h, fun h => absurd h (map_fst_ne hq hr (fun e9 => hB0 (by rw [show q = r from e9])))⟩, (hH.sublist sln).fresh⟩ | exact ⟨true, rfl, ⟨fun _ => map_fst_eq hlen (fun j hj => hall j (by omega)), fun _ => rfl⟩, hH.fresh⟩ | exact ⟨false, rfl, ⟨fun h => Bool.noConfusion h, fun h => absurd (congrArg List.length h) (by simp; omega)⟩, hH.fresh⟩
  ·
   try simp only [Bool.not_eq_false', beq_iff_eq] at hg3
   have hN1 := hg3
   obtain ⟨p9, hi11, hp10⟩ := ha.idx i (by omega) (by decide)
   refine gdo 2 [12,13] [(0, .slice Aa qs.length ca), (1, .slice Ab2 rs.length cb2), (5, Ni i), (28, .bool false), (29, .slice Aa qs.length ca), (30, Ni i)] hS9 (PQ.th (PQ.bk (PQ.th (PQ.th (PQ.bk (PQ.th PQ.body)))))) ?_
   refine gdq 14 rfl (fun w_ hS => (rd_idx (e := 83) (m := 3) (by kernel_rfl) (by kernel_rfl) rfl rfl hi11)) hS9 (PQ.th (PQ.bk (PQ.th (PQ.th (PQ.bk (PQ.th PQ.body)))))) ?_
   refine gdo 1 [15] [(0, .slice Aa qs.length ca), (1, .slice Ab2 rs.length cb2), (5, Ni i), (28, .bool false), (32, .pointer (some (p9.add 2)))] hS9 (PQ.th (PQ.bk (PQ.th (PQ.th (PQ.bk (PQ.th PQ.body)))))) ?_
   refine gdq 16 rfl (fun w_ hS => (rd_load (by kernel_rfl) rfl (hS.zin _ _ (hp10 2 _ (by decide) (rowC_at filC_len hq 2 (by decide) rfl))))) hS9 (PQ.th (PQ.bk (PQ.th (PQ.th (PQ.bk (PQ.th PQ.body)))))) ?_
   obtain ⟨p12, hi14, hp13⟩ := hb.idx i (by omega) (by decide)
   refine gdo 2 [17,18] [(0, .slice Aa qs.length ca), (1, .slice Ab2 rs.length cb2), (5, Ni i), (28, .bool false), (33, Ni q.sure), (34, .slice Ab2 rs.length cb2), (35, Ni i)] hS9 (PQ.th (PQ.bk (PQ.th (PQ.th (PQ.bk (PQ.th PQ.body)))))) ?_
   refine gdq 19 rfl (fun w_ hS => (rd_idx (e := 83) (m := 3) (by kernel_rfl) (by kernel_rfl) rfl rfl hi14)) hS9 (PQ.th (PQ.bk (PQ.th (PQ.th (PQ.bk (PQ.th PQ.body)))))) ?_
   refine gdo 1 [20] [(0, .slice Aa qs.length ca), (1, .slice Ab2 rs.length cb2), (5, Ni i), (28, .bool false), (33, Ni q.sure), (37, .pointer (some (p12.add 2)))] hS9 (PQ.th (PQ.bk (PQ.th (PQ.th (PQ.bk (PQ.th PQ.body)))))) ?_
   refine gdq 21 rfl (fun w_ hS => (rd_load (by kernel_rfl) rfl (hS.zin _ _ (hp13 2 _ (by decide) (rowC_at filC_len hr 2 (by decide) rfl))))) hS9 (PQ.th (PQ.bk (PQ.th (PQ.th (PQ.bk (PQ.th PQ.body)))))) ?_
   refine gdo 3 [22,23,24] [(0, .slice Aa qs.length ca), (1, .slice Ab2 rs.length cb2), (5, Ni i), (41, .bool (((q.sure : Nat) : Int) != ((r.sure : Nat) : Int)))] hS9 (PQ.th (PQ.bk (PQ.th (PQ.th (PQ.bk (PQ.th PQ.body)))))) ?_
   refine gd_split 41 (b := ((q.sure : Nat) : Int) != ((r.sure : Nat) : Int)) rfl (fun hg5 => ?_) (fun hg5 => ?_)
   ·
    try simp only [bne_iff_ne, ne_eq] at hg5
    have hS0 := hg5
    refine gdo 14 [25,26,27,28,29,30,31,32,33,34,35,36,37,38] [(0, .slice Aa qs.length ca), (1, .slice Ab2 rs.length cb2), (5, Ni i), (55, .bool true)] hS9 (PQ.th (PQ.bk (PQ.th (PQ.th (PQ.bk (PQ.th PQ.body)))))) ?_
    refine gdn [(0, .slice Aa qs.length ca), (1, .slice Ab2 rs.length cb2), (5, Ni i), (55, .bool true)] ?_
    refine sw_next ?_
    refine sw_true rfl rfl ?_
    refine sw_sr ?_
    refine glo 1 [(4, .bool false)] ?_
    refine gl_dn rfl ?_
    refine sw_ret ?_
    refine bkR ?_
    refine thR ?_
    refine thR ?_
    refine bkR ?_
    refine thR ?_
    refine ret1 rfl rfl  ?_
    first | exact ⟨false, rfl, ⟨fun h => Bool.noConfusion h, fun h => absurd h (map_fst_ne hq hr (fun e9 => hN0 (by rw [show q = r from e9])))⟩, (hH.sublist sln).fresh⟩ | exact ⟨false, rfl, ⟨fun h => Bool.noConfusion h, fun h => absurd h (map_fst_ne hq hr (fun e9 => absurd (show q.sure = r.sure by rw [show q = r from e9]) (by omega)))⟩, (hH.sublist sln).fresh⟩ | exact ⟨false, rfl, ⟨fun h => Bool.noConfusion h, fun h => absurd h (map_fst_ne hq hr (fun e9 => hB0 (by rw [show q = r from e9])))⟩, (hH.sublist sln).fresh⟩ | exact ⟨true, rfl, ⟨fun _ => map_fst_eq hlen (fun j hj => hall j (by omega)), fun _ => rfl⟩, hH.fresh⟩ | exact ⟨false, rfl, ⟨fun h => Bool.noConfusion h, fun h => absurd (congrArg List.length h) (by simp; omega)⟩, hH.fresh⟩
   ·
    try simp only [bne_eq_false_iff_eq] at hg5
    have hS1 := hg5
    obtain ⟨p15, hi17, hp16⟩ := ha.idx i (by omega) (by decide)
    refine gdo 2 [25,26] [(0, .slice Aa qs.length ca), (1, .slice Ab2 rs.length cb2), (5, Ni i), (41, .bool false), (42, .slice Aa qs.length ca), (43, Ni i)] hS9 (PQ.th (PQ.bk (PQ.th (PQ.th (PQ.bk (PQ.th PQ.body)))))) ?_
    refine gdq 27 rfl (fun w_ hS => (rd_idx (e := 83) (m := 3) (by kernel_rfl) (by kernel_rfl) rfl rfl hi17)) hS9 (PQ.th (PQ.bk (PQ.th (PQ.th (PQ.bk (PQ.th PQ.body)))))) ?_
    refine gdo 1 [28] [(0, .slice Aa qs.length ca), (1, .slice Ab2 rs.length cb2), (5, Ni i), (41, .bool false), (45, .pointer (some (p15.add 1)))] hS9 (PQ.th (PQ.bk (PQ.th (PQ.th (PQ.bk (PQ.th PQ.body)))))) ?_
    refine gdq 29 rfl (fun w_ hS => (rd_load (by kernel_rfl) rfl (hS.zin _ _ (hp16 1 _ (by decide) (rowC_at filC_len hq 1 (by decide) rfl))))) hS9 (PQ.th (PQ.bk (PQ.th (PQ.th (PQ.bk (PQ.th PQ.body)))))) ?_
    refine gdq 30 rfl (fun w_ hS => (rd_str (e := 5) (by kernel_rfl) (by kernel_rfl) (by kernel_rfl) rfl (hbx.mono hS.zin))) hS9 (PQ.th (PQ.bk (PQ.th (PQ.th (PQ.bk (PQ.th PQ.body)))))) ?_
    obtain ⟨p18, hi20, hp19⟩ := hb.idx i (by omega) (by decide)
    refine gdo 2 [31,32] [(0, .slice Aa qs.length ca), (1, .slice Ab2 rs.length cb2), (5, Ni i), (41, .bool false), (47, .string (bs q.b)), (48, .slice Ab2 rs.length cb2), (49, Ni i)] hS9 (PQ.th (PQ.bk (PQ.th (PQ.th (PQ.bk (PQ.th PQ.body)))))) ?_
    refine gdq 33 rfl (fun w_ hS => (rd_idx (e := 83) (m := 3) (by kernel_rfl) (by kernel_rfl) rfl rfl hi20)) hS9 (PQ.th (PQ.bk (PQ.th (PQ.th (PQ.bk (PQ.th PQ.body)))))) ?_
    refine gdo 1 [34] [(0, .slice Aa qs.length ca), (1, .slice Ab2 rs.length cb2), (5, Ni i), (41, .bool false), (47, .string (bs q.b)), (51, .pointer (some (p18.add 1)))] hS9 (PQ.th (PQ.bk (PQ.th (PQ.th (PQ.bk (PQ.th PQ.body)))))) ?_
    refine gdq 35 rfl (fun w_ hS => (rd_load (by kernel_rfl) rfl (hS.zin _ _ (hp19 1 _ (by decide) (rowC_at filC_len hr 1 (by decide) rfl))))) hS9 (PQ.th (PQ.bk (PQ.th (PQ.th (PQ.bk (PQ.th PQ.body)))))) ?_
    refine gdq 36 rfl (fun w_ hS => (rd_str (e := 5) (by kernel_rfl) (by kernel_rfl) (by kernel_rfl) rfl (hby.mono hS.zin))) hS9 (PQ.th (PQ.bk (PQ.th (PQ.th (PQ.bk (PQ.th PQ.body)))))) ?_
    refine gdq 37 rfl (fun w_ hS => (rd_sneq (by kernel_rfl) rfl rfl)) hS9 (PQ.th (PQ.bk (PQ.th (PQ.th (PQ.bk (PQ.th PQ.body)))))) ?_
    refine gdk [(0, .slice Aa qs.length ca), (1, .slice Ab2 rs.length cb2), (5, Ni i), (41, .bool false), (54, .bool (!(q.b == r.b)))] ?_
    refine gdo 1 [38] [(0, .slice Aa qs.length ca), (1, .slice Ab2 rs.length cb2), (5, Ni i), (55, .bool (!(q.b == r.b)))] hS9 (PQ.th (PQ.bk (PQ.th (PQ.th (PQ.bk (PQ.th PQ.body)))))) ?_
    refine gdn [(0, .slice Aa qs.length ca), (1, .slice Ab2 rs.length cb2), (5, Ni i), (55, .bool (!(q.b == r.b)))] ?_
    refine sw_next ?_
    refine sw_cond rfl rfl (fun hc7 => ?_) (fun hc7 => ?_)
    ·
     try simp only [Bool.not_eq_true', beq_eq_false_iff_ne, ne_eq] at hc7
     have hB0 := hc7
     refine sw_sr ?_
     refine glo 1 [(4, .bool false)] ?_
     refine gl_dn rfl ?_
     refine sw_ret ?_
     refine bkR ?_
     refine thR ?_
     refine thR ?_
     refine bkR ?_
     refine thR ?_
     refine ret1 rfl rfl  ?_
     first | exact ⟨false, rfl, ⟨fun h => Bool.noConfusion h, fun h => absurd h (map_fst_ne hq hr (fun e9 => hN0 (by rw [show q = r from e9])))⟩, (hH.sublist sln).fresh⟩ | exact ⟨false, rfl, ⟨fun h => Bool.noConfusion h, fun h => absurd h (map_fst_ne hq hr (fun e9 => absurd (show q.sure = r.sure by rw [show q = r from e9]) (by omega)))⟩, (hH.sublist sln).fresh⟩ | exact ⟨false, rfl, ⟨fun h => Bool.noConfusion h, fun h => absurd h (map_fst_ne hq hr (fun e9 => hB0 (by rw [show q = r from e9])))⟩, (hH.sublist sln).fresh⟩ | exact ⟨true, rfl, ⟨fun _ => map_fst_eq hlen (fun j hj => hall j (by omega)), fun _ => rfl⟩, hH.fresh⟩ | exact ⟨false, rfl, ⟨fun h => Bool.noConfusion h, fun h => absurd (congrArg List.length h) (by simp; omega)⟩, hH.fresh⟩
    try simp only [Bool.not_eq_false', beq_iff_eq] at hc7
    have hB1 := hc7
    refine sw_skip ?_
    refine bkN ?_
    refine sw_next ?_
    refine sw_region ?_
    refine glo 2 [(0, .slice Aa qs.length ca), (1, .slice Ab2 rs.length cb2), (16, .int .i64 (IntKind.i64.wrap (((i : Nat) : Int) + 1)))] ?_
    refine gl_cv 16 (Ni (i + 1)) (cv_i64 (by omega)) rfl ?_
    refine glo 1 [(0, .slice Aa qs.length ca), (1, .slice Ab2 rs.length cb2), (5, Ni (i + 1))] ?_
    refine gl_done rfl ?_
    refine rnd_end (g := (i)) (i + 1) (by kernel_rfl) ?_ ?_
    · exact ⟨by omega, all_nx2 hall hq hr (fil_ext hN1 (Int.ofNat.inj hS1) hB1), hH⟩
    · show qs.length - (i + 1) < qs.length - i; omega
 try simp only [decide_eq_false_iff_not, Int.not_lt, Int.not_le] at hc2
 refine sw_exit ?_
 refine thX ?_
 refine thX ?_
 refine bkH ?_
 refine sw_next ?_
 refine sw_sr ?_
 refine glo 1 [(4, .bool true)] ?_
 refine gl_dn rfl ?_
 refine sw_ret ?_
 refine ret1 rfl rfl  ?_
 first | exact ⟨false, rfl, ⟨fun h => Bool.noConfusion h, fun h => absurd h (map_fst_ne hq hr (fun e9 => hN0 (by rw [show q = r from e9])))⟩, (hH.sublist sln).fresh⟩ | exact ⟨false, rfl, ⟨fun h => Bool.noConfusion h, fun h => absurd h (map_fst_ne hq hr (fun e9 => absurd (show q.sure = r.sure by rw [show q = r from e9]) (by omega)))⟩, (hH.sublist sln).fresh⟩ | exact ⟨false, rfl, ⟨fun h => Bool.noConfusion h, fun h => absurd h (map_fst_ne hq hr (fun e9 => hB0 (by rw [show q = r from e9])))⟩, (hH.sublist sln).fresh⟩ | exact ⟨true, rfl, ⟨fun _ => map_fst_eq hlen (fun j hj => hall j (by omega)), fun _ => rfl⟩, hH.fresh⟩ | exact ⟨false, rfl, ⟨fun h => Bool.noConfusion h, fun h => absurd (congrArg List.length h) (by simp; omega)⟩, hH.fresh⟩
end Go.Proofs.YtajapgjemefoiaaGreatDoor
/- Layer 18 (disk): what holds of a disk's state, the program's and the document's; what is sure lasts. Plain mathematics. -/
set_option linter.unusedVariables false
namespace Go.Proofs.YtajapgjemefoiaaGreatDoor
open Go.RowKit Go.SW
theorem arOk_do {D : Dsk} (h : ArOk D.ar) (kind : Nat) (nm p : List UInt8) (n : Int) : ArOk (doD D kind nm p n).1.ar := by
  unfold doD
  split
  · exact h
  split
  · exact h
  · exact arOk_cut h
theorem len_doF (F : List Fil) (kind : Nat) (nm p : List UInt8) (n : Nat) : (doF F kind nm p n).length ≤ F.length + 1 := by
  have hs : ∀ f : Fil, (setF F f).length ≤ F.length + 1 := by
    intro f
    unfold setF
    rw [List.length_append, List.length_cons]
    have h : ∀ (F : List Fil), (F.filter (fun g => decide (g.name < f.name))).length + (F.filter (fun g => decide (f.name < g.name))).length ≤ F.length := by
      intro F
      induction F with
      | nil => simp
      | cons g F ih =>
        rw [List.filter_cons, List.filter_cons, List.length_cons]
        by_cases h1 : g.name < f.name
        · have h2 : ¬ f.name < g.name := fun h => bl_irrefl _ (bl_trans h1 h)
          simp only [h1, h2, decide_true, decide_false, if_true, Bool.false_eq_true, if_false, List.length_cons]; omega
        · by_cases h2 : f.name < g.name <;> simp only [h1, h2, decide_true, decide_false, if_true, Bool.false_eq_true, if_false, List.length_cons] <;> omega
    have := h F
    omega
  unfold doF
  split
  · exact hs _
  · exact hs _
  · exact hs _
  · exact hs _
  · unfold delF
    have := List.length_filter_le (fun g : Fil => !(g.name == nm)) F
    omega
theorem doF2 (F : List Fil) (nm p : List UInt8) (n : Nat) : doF F 2 nm p n = setF F ⟨nm, p, p.length⟩ := rfl
def Sure (F : List Fil) : Prop := ∀ f ∈ F, f.sure = f.b.length
theorem modI_one (n : Int) : modI n 1 = 0 := by have := modI_lt n (show 0 < 1 by omega); omega
theorem startF1_sure {f : Fil} (h : f.sure = f.b.length) (i : Nat) (ks : List Int) : startF1 f i ks = f := by
  have e : startS f i ks = f.sure := by
    unfold startS
    rw [show f.b.length - f.sure + 1 = 1 by omega, modI_one]
    split <;> rfl
  unfold startF1
  rw [e, h, List.take_length]
  cases f; simp_all
theorem start_sure {F : List Fil} (h : Sure F) (ks : List Int) : startF F ks = F := by
  unfold startF
  apply List.ext_getElem?
  intro j
  rw [List.getElem?_mapIdx]
  cases hj : F[j]? with
  | none => rfl
  | some f => simp only [Option.map_some]; rw [startF1_sure (h f (List.mem_of_getElem? hj))]
end Go.Proofs.YtajapgjemefoiaaGreatDoor
/- Layer 19 (wal): records, what a log says, what is done to it. Plain mathematics. -/
set_option linter.unusedVariables false
namespace Go.Proofs.YtajapgjemefoiaaGreatDoor
open Go.SW Go.RowKit
/-- An entry. -/
structure En where
  ix : Nat
  tm : Nat
  kd : Nat
  d : List UInt8
/-- What a log says. -/
structure Cn where
  term : Nat
  vote : Nat
  ix : Nat
  ah : Nat
  es : List En
/-- A record. -/
structure Rc where
  k : Nat
  a : Nat
  b : Nat
  c : Nat
  d : List UInt8
def Cn.zero : Cn := ⟨0, 0, 0, 0, []⟩
def putC (c : Cn) (e : En) : Option Cn := if e.ix ≤ c.ix ∨ c.ix + c.es.length < e.ix - 1 then none else some { c with es := c.es.take (e.ix - c.ix - 1) ++ [e] }
def doC (c : Cn) (r : Rc) (first : Bool) : Option Cn :=
  if r.k = 1 then some { c with term := r.a, vote := r.b } else if r.k = 2 then putC c ⟨r.a, r.b, r.c, r.d⟩ else if first = true then some { c with ix := r.a, ah := r.b, es := [] } else none
def doAll : Cn → List Rc → Bool → Option Cn
  | c, [], _ => some c
  | c, r :: rs, first => (doC c r first).bind fun c' => doAll c' rs false
def recP (r : Rc) : List UInt8 := numB r.k ++ numB r.a ++ numB r.b ++ (if r.k = 2 then numB r.c ++ blobB r.d else [])
def recB (r : Rc) : List UInt8 := frameO (recP r)
def enR (e : En) : Rc := ⟨2, e.ix, e.tm, e.kd, e.d⟩
def stR (t v : Nat) : Rc := ⟨1, t, v, 0, []⟩
def baR (i a : Nat) : Rc := ⟨3, i, a, 0, []⟩
def recsB (rs : List Rc) : List UInt8 := (rs.map recB).flatten
def readR (p : List UInt8) : Option Rc :=
  if (takeNum p).2.2 ≠ 0 then none else
  if (takeNum (p.drop (takeNum p).2.1)).2.2 ≠ 0 then none else
  if (takeNum ((p.drop (takeNum p).2.1).drop (takeNum (p.drop (takeNum p).2.1)).2.1)).2.2 ≠ 0 then none else
  let k := (takeNum p).1
  let p1 := p.drop (takeNum p).2.1
  let a := (takeNum p1).1
  let p2 := p1.drop (takeNum p1).2.1
  let b := (takeNum p2).1
  let p3 := p2.drop (takeNum p2).2.1
  if k = 2 then
    if (takeNum p3).2.2 ≠ 0 then none else
    let p4 := p3.drop (takeNum p3).2.1
    if (takeBlob p4).2.2 ≠ 0 then none else
    if p4.drop (takeBlob p4).2.1 = [] then some ⟨2, a, b, (takeNum p3).1, (takeBlob p4).1⟩ else none
  else if (k = 1 ∨ k = 3) ∧ p3 = [] then some ⟨k, a, b, 0, []⟩ else none
abbrev decB (n : Nat) : List UInt8 := Lib.decDigits n
def nameF (k : Nat) : List UInt8 := [108, 111, 103] ++ decB k
def decV (l : List UInt8) : Nat := l.foldl (fun n c => 10 * n + (c.toNat - 48)) 0
def numF (s : List UInt8) : Nat :=
  if s.take 3 = [108, 111, 103] ∧ 3 < s.length ∧ gb s 3 ≠ 48 ∧ s.length ≤ 12 ∧ (s.drop 3).all (fun c => decide (48 ≤ c.toNat) && decide (c.toNat ≤ 57)) = true then decV (s.drop 3) else 0
/-- A file of the log: its number, its records, how long its frames are, does more stand behind them? -/
structure Pt where
  k : Nat
  rs : List Rc
  whole : Nat
  more : Bool
def rowsR : List (List UInt8) → Option (List Rc)
  | [] => some []
  | p :: r => (readR p).bind fun x => (rowsR r).map (x :: ·)
def ptF (f : Fil) : Option Pt := (rowsR (scanA f.b 0).1).map fun rs => ⟨numF f.name, rs, (scanA f.b 0).2.1, decide ((scanA f.b 0).2.2 ≠ 0)⟩
def partsF : List Fil → Option (List Pt)
  | [] => some []
  | f :: r => if numF f.name = 0 then partsF r else (ptF f).bind fun p => (partsF r).map (p :: ·)
/-- The log's state in memory. -/
structure Lg where
  c : Cn
  file : Nat
  long : Nat
  bad : Nat
/-- An entry, as it is handed in. -/
structure EA where
  ix : Int
  tm : Int
  kd : Int
  d : List UInt8
def EA.en (e : EA) : En := ⟨e.ix.toNat, e.tm.toNat, e.kd.toNat, e.d⟩
def putsA : Cn → List EA → Option Cn
  | c, [] => some c
  | c, e :: r => if e.tm < 0 ∨ e.kd < 0 ∨ e.ix ≤ c.ix then none else (putC c e.en).bind fun c' => putsA c' r
def saveB (c : Cn) (t v : Nat) (es : List En) : List UInt8 := (if t ≠ c.term ∨ v ≠ c.vote then recB (stR t v) else []) ++ recsB (es.map enR)
def saveL (D : Dsk) (l : Lg) (t v : Int) (es : List EA) : Dsk × Lg × Nat :=
  if l.bad ≠ 0 then (D, l, l.bad) else
  match putsA l.c es with
  | none => (D, l, 1)
  | some c' =>
    if t < 0 ∨ v < 0 then (D, l, 1) else
    if es.any (fun e => decide (65536 < e.d.length)) = true then (D, l, 2) else
    let b := saveB l.c t.toNat v.toNat (es.map EA.en)
    if b = [] then (D, l, 0) else
    let fi := if 1024 ≤ l.long then l.file + 1 else l.file
    let lo := (if 1024 ≤ l.long then 0 else l.long) + b.length
    let R1 := doD D 0 (nameF fi) b 0
    if R1.2 ≠ 0 then (R1.1, ⟨l.c, fi, lo, R1.2⟩, R1.2) else
    let R2 := doD R1.1 1 (nameF fi) [] 0
    if R2.2 ≠ 0 then (R2.1, ⟨l.c, fi, lo, R2.2⟩, R2.2) else (R2.1, ⟨{ c' with term := t.toNat, vote := v.toNat }, fi, lo, 0⟩, 0)
def allR (c : Cn) : List Rc := baR c.ix c.ah :: stR c.term c.vote :: c.es.map enR
def remAll : Dsk → List Nat → Dsk × Nat
  | D, [] => (D, 0)
  | D, k :: r => if (doD D 4 (nameF k) [] 0).2 ≠ 0 then doD D 4 (nameF k) [] 0 else remAll (doD D 4 (nameF k) [] 0).1 r
def sortP (l : List Pt) : List Pt := l.mergeSort fun a b => decide (a.k ≤ b.k)
def keepC (c : Cn) (i t : Nat) : Cn :=
  { c with ix := i, ah := t, es := if i = c.ix ∧ t = c.ah then c.es else if c.ix < i ∧ i - c.ix ≤ c.es.length ∧ (c.es[i - c.ix - 1]?).map (·.tm) = some t then c.es.drop (i - c.ix) else [] }
def compactL (D : Dsk) (l : Lg) (i t : Int) : Dsk × Lg × Nat :=
  if l.bad ≠ 0 then (D, l, l.bad) else if i < 0 ∨ t < 0 then (D, l, 1) else
  let c' := keepC l.c i.toNat t.toNat
  let b := recsB (allR c')
  let R1 := doD D 2 (nameF (l.file + 1)) b 0
  if R1.2 ≠ 0 then (R1.1, ⟨l.c, l.file + 1, b.length, R1.2⟩, R1.2) else
  let R2 := remAll R1.1 (((partsF D.fs).map fun ps => (sortP ps).map (·.k)).getD [])
  (R2.1, ⟨if R2.2 = 0 then c' else l.c, l.file + 1, b.length, R2.2⟩, R2.2)
end Go.Proofs.YtajapgjemefoiaaGreatDoor
/- Layer 19 (wal): what was laid is read again: frames behind one another, records, names. Plain mathematics. -/
set_option linter.unusedVariables false
namespace Go.Proofs.YtajapgjemefoiaaGreatDoor
open Go.SW Go.RowKit
theorem openF_app (p r : List UInt8) (h : p.length ≤ 1048576) : openF (frameB p ++ r) = (p, p.length + 8, 0) := by
  have hg : get4 (frameB p ++ r) = p.length := by
    unfold frameB; rw [List.append_assoc, List.append_assoc]; exact four_get4 _ (by omega) _
  have hl := frameB_length p
  have ht : (frameB p ++ r).take (p.length + 4) = four p.length ++ p := by
    unfold frameB
    rw [List.append_assoc]
    exact List.take_left' (by rw [List.length_append, four_length]; omega)
  have hd : (frameB p ++ r).drop (p.length + 4) = four (crc (four p.length ++ p)) ++ r := by
    unfold frameB
    rw [List.append_assoc]
    exact List.drop_left' (by rw [List.length_append, four_length]; omega)
  have hd4 : ((frameB p ++ r).drop 4).take p.length = p := by
    unfold frameB
    rw [List.append_assoc, List.append_assoc, List.drop_left' (four_length _), List.take_left]
  unfold openF
  rw [if_neg (by rw [List.length_append]; omega), hg, if_neg (by omega), if_neg (by rw [List.length_append]; omega), ht, hd, hd4]
  rw [four_get4 (crc (four p.length ++ p)) (crc_lt _) r, if_neg (fun h => h rfl)]
theorem openF_torn (p : List UInt8) (h : p.length ≤ 1048576) (n : Nat) (hn : n < (frameB p).length) : (openF ((frameB p).take n)).2.2 = 3 := by
  have hl := frameB_length p
  have hlen : ((frameB p).take n).length = n := by rw [List.length_take]; omega
  unfold openF
  by_cases h4 : n < 4
  · rw [if_pos (by omega)]
  · have hg : get4 ((frameB p).take n) = p.length := by
      have e : (frameB p).take n = four p.length ++ (p ++ four (crc (four p.length ++ p))).take (n - 4) := by
        unfold frameB
        rw [List.append_assoc, List.take_append, four_length, List.take_of_length_le (by rw [four_length]; omega)]
      rw [e]
      exact four_get4 _ (by omega) _
    rw [if_neg (by omega), hg, if_neg (by omega), if_pos (by omega)]
def framesB (ps : List (List UInt8)) : List UInt8 := (ps.map frameB).flatten
theorem framesB_cons (p : List UInt8) (ps : List (List UInt8)) : framesB (p :: ps) = frameB p ++ framesB ps := rfl
theorem scan_frames : ∀ (ps : List (List UInt8)) (pre rest : List UInt8), (∀ p ∈ ps, p.length ≤ 1048576) → scanA (pre ++ (framesB ps ++ rest)) pre.length = (ps ++ (scanA (pre ++ (framesB ps ++ rest)) (pre.length + (framesB ps).length)).1, (scanA (pre ++ (framesB ps ++ rest)) (pre.length + (framesB ps).length)).2)
  | [], pre, rest, _ => by simp [framesB]
  | p :: ps, pre, rest, h => by
    have hp := h p List.mem_cons_self
    have ho : openF ((pre ++ (framesB (p :: ps) ++ rest)).drop pre.length) = (p, p.length + 8, 0) := by
      rw [List.drop_left, framesB_cons, List.append_assoc]
      exact openF_app p _ hp
    have hlt : pre.length < (pre ++ (framesB (p :: ps) ++ rest)).length := by
      rw [framesB_cons]
      simp only [List.length_append, frameB_length]
      omega
    have ih := scan_frames ps (pre ++ frameB p) rest (fun q hq => h q (List.mem_cons_of_mem _ hq))
    have e : pre ++ frameB p ++ (framesB ps ++ rest) = pre ++ (framesB (p :: ps) ++ rest) := by rw [framesB_cons]; simp
    rw [e, List.length_append, frameB_length] at ih
    rw [scan_step hlt (by rw [ho]), ho]
    simp only
    rw [ih, framesB_cons, List.length_append, frameB_length, Nat.add_assoc pre.length (p.length + 8)]
    rfl
theorem scan_all {ps : List (List UInt8)} (h : ∀ p ∈ ps, p.length ≤ 1048576) : scanA (framesB ps) 0 = (ps, (framesB ps).length, 0) := by
  have := scan_frames ps [] [] h
  simp only [List.nil_append, List.append_nil, List.length_nil, Nat.zero_add] at this
  rw [this, scan_end (Nat.le_refl _)]
  simp
theorem scan_torn {ps : List (List UInt8)} (h : ∀ p ∈ ps, p.length ≤ 1048576) {q : List UInt8} (hq : q.length ≤ 1048576) {n : Nat} (h0 : 0 < n) (hn : n < (frameB q).length) : scanA (framesB ps ++ (frameB q).take n) 0 = (ps, (framesB ps).length, 3) := by
  have := scan_frames ps [] ((frameB q).take n) h
  simp only [List.nil_append, List.length_nil, Nat.zero_add] at this
  have ho : (openF ((framesB ps ++ (frameB q).take n).drop (framesB ps).length)).2.2 = 3 := by rw [List.drop_left]; exact openF_torn q hq n hn
  rw [this, scan_err (by rw [List.length_append, List.length_take]; omega) (by rw [ho]; omega), ho]
  simp
/-- A record that may be. -/
structure RcOk (r : Rc) : Prop where
  a : r.a < 9223372036854775808
  b : r.b < 9223372036854775808
  c : r.c < 9223372036854775808
  k : r.k = 2 ∧ r.d.length ≤ 65536 ∨ (r.k = 1 ∨ r.k = 3) ∧ r.c = 0 ∧ r.d = []
theorem numB_le9 (n : Nat) (h : n < 9223372036854775808) : (numB n).length ≤ 9 := by
  have := (numLen_bd n h).2.1
  rw [numB_length]; omega
theorem recP_len {r : Rc} (h : RcOk r) : (recP r).length ≤ 1048576 := by
  have h0 : r.k < 9223372036854775808 := by rcases h.k with h | h <;> omega
  have h1 := numB_le9 _ h0
  have h2 := numB_le9 _ h.a
  have h3 := numB_le9 _ h.b
  have h4 := numB_le9 _ h.c
  unfold recP
  simp only [List.length_append]
  split
  · rename_i hk
    have hd : r.d.length ≤ 65536 := by rcases h.k with h | h <;> omega
    have h5 := numB_le9 r.d.length (by omega)
    unfold blobB
    rw [if_neg (by omega)]
    simp only [List.length_append]
    omega
  · simp only [List.length_nil]; omega
theorem recB_eq {r : Rc} (h : RcOk r) : recB r = frameB (recP r) := by
  have := recP_len h
  unfold recB frameO
  rw [if_neg (by omega)]
theorem readR_recP {r : Rc} (h : RcOk r) : readR (recP r) = some r := by
  have h0 : r.k < 9223372036854775808 := by rcases h.k with h | h <;> omega
  obtain ⟨k, a, b, c, d⟩ := r
  obtain ⟨ha, hb, hc, hk⟩ := h
  simp only at ha hb hc hk h0
  obtain ⟨x, hx⟩ : ∃ x, x = (if k = 2 then numB c ++ blobB d else []) := ⟨_, rfl⟩
  have e : recP ⟨k, a, b, c, d⟩ = numB k ++ (numB a ++ (numB b ++ x)) := by unfold recP; rw [hx]; simp
  have t1 := takeNum_numB k h0 (numB a ++ (numB b ++ x))
  have t2 := takeNum_numB a ha (numB b ++ x)
  have t3 := takeNum_numB b hb x
  unfold readR
  rw [e]
  simp only [t1, List.drop_left, t2, t3, ne_eq, not_true_eq_false, if_false]
  rcases hk with ⟨hk, hd⟩ | ⟨hk, rfl, rfl⟩
  · subst hk
    rw [if_pos rfl] at hx
    have t4 := takeNum_numB c hc (blobB d)
    have t5 := takeBlob_blobB d (by omega) []
    rw [List.append_nil] at t5
    subst hx
    simp only [t4, List.drop_left, t5, if_true, not_true_eq_false, if_false, List.drop_length]
  · rw [if_neg (by omega)] at hx
    subst hx
    rw [if_neg (by omega), if_pos ⟨hk, rfl⟩]
theorem rowsR_recP : ∀ {rs : List Rc}, (∀ r ∈ rs, RcOk r) → rowsR (rs.map recP) = some rs
  | [], _ => rfl
  | r :: rs, h => by
    rw [List.map_cons, rowsR, readR_recP (h r List.mem_cons_self), rowsR_recP (fun q hq => h q (List.mem_cons_of_mem _ hq))]
    rfl
theorem recsB_eq : ∀ {rs : List Rc}, (∀ r ∈ rs, RcOk r) → recsB rs = framesB (rs.map recP)
  | [], _ => rfl
  | r :: rs, h => by
    have ih := recsB_eq (fun q hq => h q (List.mem_cons_of_mem _ hq) : ∀ q ∈ rs, RcOk q)
    show recB r ++ recsB rs = frameB (recP r) ++ framesB (rs.map recP)
    rw [recB_eq (h r List.mem_cons_self), ih]
theorem decV_snoc (l : List UInt8) (c : UInt8) : decV (l ++ [c]) = 10 * decV l + (c.toNat - 48) := by unfold decV; rw [List.foldl_append]; rfl
theorem dig_nat {u : Nat} (h : u < 10) : (UInt8.ofNat (48 + u)).toNat = 48 + u := by rw [UInt8.toNat_ofNat']; omega
theorem decV_dec : ∀ (u : Nat), decV (decB u) = u := by
  intro u
  induction u using Nat.strongRecOn with
  | ind u ih =>
    unfold decB
    rw [Lib.decDigits]
    split
    · rename_i h
      show 10 * 0 + ((UInt8.ofNat (48 + u)).toNat - 48) = u
      rw [dig_nat h]; omega
    · rename_i h
      have h2 := ih (u / 10) (by omega)
      rw [decV_snoc, h2, dig_nat (Nat.mod_lt _ (by omega))]
      omega
theorem dec_digits : ∀ (u : Nat), (decB u).all (fun c => decide (48 ≤ c.toNat) && decide (c.toNat ≤ 57)) = true := by
  intro u
  induction u using Nat.strongRecOn with
  | ind u ih =>
    unfold decB
    rw [Lib.decDigits]
    split
    · rename_i h
      simp only [List.all_cons, List.all_nil, Bool.and_true, dig_nat h]
      simp; omega
    · rename_i h
      have h2 := ih (u / 10) (by omega)
      rw [List.all_append, h2]
      simp only [List.all_cons, List.all_nil, Bool.and_true, Bool.true_and, dig_nat (Nat.mod_lt u (show 0 < 10 by omega))]
      simp; omega
theorem dec_head : ∀ (u : Nat), 0 < u → ∃ c l, decB u = c :: l ∧ c.toNat ≠ 48 := by
  intro u
  induction u using Nat.strongRecOn with
  | ind u ih =>
    intro h0
    unfold decB
    rw [Lib.decDigits]
    split
    · rename_i h
      exact ⟨_, [], rfl, by rw [dig_nat h]; omega⟩
    · rename_i h
      obtain ⟨c, l, e, hc⟩ := ih (u / 10) (by omega) (by omega)
      unfold decB at e
      rw [e]
      exact ⟨c, l ++ [_], rfl, hc⟩
theorem nDig_le : ∀ (k u : Nat), u < 10 ^ (k + 1) → Lib.nDigits u ≤ k + 1
  | 0, u, h => by rw [Lib.nDigits_small (by simpa using h)]; omega
  | k + 1, u, h => by
    by_cases hu : u < 10
    · rw [Lib.nDigits_small hu]; omega
    · rw [Lib.nDigits_big hu]
      have := nDig_le k (u / 10) (by rw [Nat.pow_succ] at h; omega)
      omega
theorem dec_len {u : Nat} (h : u < 1000000000) : (decB u).length ≤ 9 := by
  rw [show (decB u).length = Lib.nDigits u from Lib.decDigits_length u]
  exact nDig_le 8 u (by simpa using h)
theorem numF_nameF {k : Nat} (h0 : 0 < k) (h : k < 1000000000) : numF (nameF k) = k := by
  obtain ⟨c, l, e, hc⟩ := dec_head k h0
  have hl := dec_len h
  have hd := dec_digits k
  have hv := decV_dec k
  unfold numF nameF
  rw [e] at hl hd hv ⊢
  have e3 : ([108, 111, 103] ++ c :: l : List UInt8).drop 3 = c :: l := rfl
  rw [e3, if_pos ⟨rfl, by simp, by simpa [gb] using hc, by simpa using hl, hd⟩, hv]
theorem nameF_inj {j k : Nat} (h : nameF j = nameF k) : j = k := by
  have h1 : decB j = decB k := List.append_cancel_left h
  rw [← decV_dec j, h1, decV_dec]
end Go.Proofs.YtajapgjemefoiaaGreatDoor
/- Layer 19 (wal): opening; which disks hold a log, and that it is opened as it was left. Plain mathematics. -/
set_option linter.unusedVariables false
namespace Go.Proofs.YtajapgjemefoiaaGreatDoor
open Go.SW Go.RowKit
def isBase (p : Pt) : Bool := match p.rs with | r :: _ => decide (r.k = 3) | [] => false
def okP : List Pt → Bool
  | [] => true
  | [p] => decide (p.k ≤ 100000000)
  | p :: q :: r => decide (p.k ≤ 100000000) && !p.more && decide (p.k + 1 = q.k) && okP (q :: r)
def fromP : List Pt → Option Nat
  | [] => none
  | p :: r => match fromP r with | some i => some (i + 1) | none => if isBase p = true then some 0 else none
def readL (ps : List Pt) : Option (Nat × Cn) :=
  if okP ps = true then (fromP ps).bind fun i => (doAll Cn.zero ((ps.drop i).map (·.rs)).flatten true).map fun c => (i, c) else none
def lastP (ps : List Pt) : Pt := ps.getLast?.getD ⟨0, [], 0, false⟩
def openL (D : Dsk) : Dsk × Option Lg × Nat :=
  if D.off = true then (D, none, 80) else
  match partsF D.fs with
  | none => (D, none, 90)
  | some ps0 =>
    let ps := sortP ps0
    if ps.length = 0 then
      let b := recsB (allR Cn.zero)
      let R := doD D 2 (nameF 1) b 0
      if R.2 ≠ 0 then (R.1, none, R.2) else (R.1, some ⟨Cn.zero, 1, b.length, 0⟩, 0)
    else match readL ps with
    | none => (D, none, 90)
    | some (i, c) =>
      let R := remAll D ((ps.take i).map (·.k))
      if R.2 ≠ 0 then (R.1, none, R.2) else
      let p := lastP ps
      let R2 := if p.more = true then doD R.1 3 (nameF p.k) [] p.whole else (R.1, 0)
      if R2.2 ≠ 0 then (R2.1, none, R2.2) else
      let R3 := doD R2.1 1 (nameF p.k) [] 0
      if R3.2 ≠ 0 then (R3.1, none, R3.2) else (R3.1, some ⟨c, p.k, p.whole, 0⟩, 0)
theorem decV_dec2 : ∀ (n : Nat) (l : List UInt8), l.length = n → (∀ c ∈ l, 48 ≤ c.toNat ∧ c.toNat ≤ 57) → (∀ c r, l = c :: r → c.toNat ≠ 48) → l ≠ [] → 0 < decV l ∧ decB (decV l) = l := by
  intro n
  induction n with
  | zero => intro l hl _ _ h; exact absurd (List.length_eq_zero_iff.1 hl) h
  | succ n ih =>
    intro l hln hd hh hne
    rcases List.eq_nil_or_concat l with rfl | ⟨l, c, rfl⟩
    · exact absurd rfl hne
    rw [List.concat_eq_append] at *
    have hln2 : l.length = n := by simp at hln; omega
    have hc := hd c (by simp)
    have ec : UInt8.ofNat (48 + (c.toNat - 48)) = c := by
      rw [show 48 + (c.toNat - 48) = c.toNat by omega]; exact UInt8.ofNat_toNat
    rw [decV_snoc]
    by_cases hl : l = []
    · subst hl
      have h0 := hh c [] rfl
      have h1 : decV [] = 0 := rfl
      rw [h1]
      refine ⟨by omega, ?_⟩
      unfold decB
      rw [Lib.decDigits, dif_pos (by omega), Nat.mul_zero, Nat.zero_add, ec]; rfl
    · obtain ⟨hp, he⟩ := ih l hln2 (fun d h => hd d (List.mem_append_left _ h)) (fun d r e => hh d (r ++ [c]) (by rw [e]; rfl)) hl
      refine ⟨by omega, ?_⟩
      have e1 : (10 * decV l + (c.toNat - 48)) / 10 = decV l := by omega
      have e2 : (10 * decV l + (c.toNat - 48)) % 10 = c.toNat - 48 := by omega
      unfold decB at he ⊢
      rw [Lib.decDigits, dif_neg (by omega), e1, e2, he, ec]
theorem nameF_numF {s : List UInt8} (h : numF s ≠ 0) : s = nameF (numF s) := by
  unfold numF at h ⊢
  split at h
  · rename_i hc
    obtain ⟨h1, h2, h3, h4, h5⟩ := hc
    rw [if_pos ⟨h1, h2, h3, h4, h5⟩]
    have hne : s.drop 3 ≠ [] := by intro e; have := congrArg List.length e; simp at this; omega
    have hd : ∀ c ∈ s.drop 3, 48 ≤ c.toNat ∧ c.toNat ≤ 57 := fun c hc => by
      have := List.all_eq_true.1 h5 c hc
      simpa using this
    have hh : ∀ c r, s.drop 3 = c :: r → c.toNat ≠ 48 := fun c r e => by
      have e2 : gb s 3 = c.toNat := by
        have h9 : (s.drop 3)[0]? = some c := by rw [e]; rfl
        rw [List.getElem?_drop] at h9
        simp only [gb, List.getD_eq_getElem?_getD]
        rw [show s[3]? = some c from h9]; rfl
      omega
    have he := (decV_dec2 _ _ rfl hd hh hne).2
    unfold nameF
    rw [he, ← h1, List.take_append_drop]
  · exact absurd rfl h
def segFs (lo : Nat) : List (List Rc) → List Fil
  | [] => []
  | rs :: ss => ⟨nameF lo, recsB rs, (recsB rs).length⟩ :: segFs (lo + 1) ss
def segPs (lo : Nat) : List (List Rc) → List Pt
  | [] => []
  | rs :: ss => ⟨lo, rs, (recsB rs).length, false⟩ :: segPs (lo + 1) ss
/-- The disk holds the log l: its files are these, from number lo on. -/
structure LogOn (D : Dsk) (l : Lg) (lo : Nat) (segs : List (List Rc)) : Prop where
  off : D.off = false
  ar : D.ar = none
  srt : Srt D.fs
  perm : D.fs.Perm (segFs lo segs)
  ok : ∀ rs ∈ segs, ∀ r ∈ rs, RcOk r
  base : ∃ r rs ss, segs = (r :: rs) :: ss ∧ r.k = 3 ∧ (∀ s ∈ ss, ∀ r ∈ s, r.k ≠ 3)
  c : doAll Cn.zero segs.flatten true = some l.c
  lo0 : 0 < lo
  file : l.file + 1 = lo + segs.length
  few : l.file ≤ 100000
  long : segs.getLast?.map (fun rs => (recsB rs).length) = some l.long
  bad : l.bad = 0
theorem recP_all {rs : List Rc} (h : ∀ r ∈ rs, RcOk r) : ∀ p ∈ rs.map recP, p.length ≤ 1048576 := by
  intro p hp
  obtain ⟨r, hr, rfl⟩ := List.mem_map.1 hp
  exact recP_len (h r hr)
theorem ptF_seg {lo : Nat} {rs : List Rc} (h : ∀ r ∈ rs, RcOk r) (h0 : 0 < lo) (h1 : lo < 1000000000) : ptF ⟨nameF lo, recsB rs, (recsB rs).length⟩ = some ⟨lo, rs, (recsB rs).length, false⟩ := by
  unfold ptF
  simp only
  rw [recsB_eq h, scan_all (recP_all h), rowsR_recP h, numF_nameF h0 h1]
  rfl
theorem partsF_perm {F G : List Fil} (h : F.Perm G) {ps : List Pt} (hp : partsF F = some ps) : ∃ qs, partsF G = some qs ∧ ps.Perm qs := by
  induction h generalizing ps with
  | nil => exact ⟨ps, hp, List.Perm.refl _⟩
  | cons f h ih =>
    rw [partsF] at hp ⊢
    split at hp
    · rename_i h0; rw [if_pos h0]; exact ih hp
    · rename_i h0
      rw [if_neg h0]
      obtain ⟨p, e1, h2⟩ := Option.bind_eq_some_iff.1 hp
      obtain ⟨r, e2, rfl⟩ := Option.map_eq_some_iff.1 h2
      obtain ⟨qs, e3, hpe⟩ := ih e2
      exact ⟨p :: qs, by rw [e1, e3]; rfl, hpe.cons p⟩
  | swap f g l =>
    rw [partsF, partsF] at hp
    rw [partsF, partsF]
    by_cases hf : numF f.name = 0 <;> by_cases hg : numF g.name = 0
    · simp only [hf, hg, if_true] at hp ⊢; exact ⟨ps, hp, List.Perm.refl _⟩
    · simp only [hf, hg, if_true, if_false] at hp ⊢; exact ⟨ps, hp, List.Perm.refl _⟩
    · simp only [hf, hg, if_true, if_false] at hp ⊢; exact ⟨ps, hp, List.Perm.refl _⟩
    · simp only [hf, hg, if_false] at hp ⊢
      obtain ⟨p, e1, h2⟩ := Option.bind_eq_some_iff.1 hp
      obtain ⟨r, e2, rfl⟩ := Option.map_eq_some_iff.1 h2
      obtain ⟨q, e3, h4⟩ := Option.bind_eq_some_iff.1 e2
      obtain ⟨s, e4, rfl⟩ := Option.map_eq_some_iff.1 h4
      refine ⟨q :: p :: s, ?_, List.Perm.swap _ _ _⟩
      rw [e3, e1, e4]; rfl
  | trans h1 h2 ih1 ih2 =>
    obtain ⟨qs, e1, p1⟩ := ih1 hp
    obtain ⟨rs, e2, p2⟩ := ih2 e1
    exact ⟨rs, e2, p1.trans p2⟩
theorem partsF_segs : ∀ (segs : List (List Rc)) {lo : Nat}, (∀ rs ∈ segs, ∀ r ∈ rs, RcOk r) → 0 < lo → lo + segs.length ≤ 1000000000 → partsF (segFs lo segs) = some (segPs lo segs)
  | [], _, _, _, _ => rfl
  | rs :: ss, lo, h, h0, h1 => by
    rw [List.length_cons] at h1
    have hn := numF_nameF h0 (show lo < 1000000000 by omega)
    show partsF (_ :: segFs (lo + 1) ss) = _
    rw [partsF, if_neg (by simp only; omega), ptF_seg (h rs List.mem_cons_self) h0 (by omega), partsF_segs ss (fun q hq => h q (List.mem_cons_of_mem _ hq)) (by omega) (by omega)]
    rfl
theorem segPs_lt : ∀ (segs : List (List Rc)) (lo : Nat), (∀ p ∈ segPs lo segs, lo ≤ p.k) ∧ (segPs lo segs).Pairwise (fun a b => a.k < b.k)
  | [], lo => ⟨fun p hp => (by cases hp), List.Pairwise.nil⟩
  | rs :: ss, lo => by
    obtain ⟨h1, h2⟩ := segPs_lt ss (lo + 1)
    refine ⟨fun p hp => ?_, List.pairwise_cons.2 ⟨fun p hp => ?_, h2⟩⟩
    · rcases List.mem_cons.1 hp with rfl | hp
      · exact Nat.le_refl _
      · have := h1 p hp; omega
    · have := h1 p hp
      show lo < p.k
      omega
theorem sortP_sorted (l : List Pt) : (sortP l).Pairwise (fun a b => a.k ≤ b.k) := by
  have := List.pairwise_mergeSort (le := fun a b : Pt => decide (a.k ≤ b.k)) (fun a b c h1 h2 => by simp at *; omega) (fun a b => by simp; omega) l
  exact this.imp fun h => by simpa using h
theorem keys_inj {l : List Pt} (h : l.Pairwise (fun a b => a.k < b.k)) {a b : Pt} (ha : a ∈ l) (hb : b ∈ l) (e : a.k = b.k) : a = b := by
  induction l with
  | nil => cases ha
  | cons x l ih =>
    have h2 := List.pairwise_cons.1 h
    rcases List.mem_cons.1 ha with ha2 | ha2 <;> rcases List.mem_cons.1 hb with hb2 | hb2
    · rw [ha2, hb2]
    · have := h2.1 b hb2; rw [ha2] at e; omega
    · have := h2.1 a ha2; rw [hb2] at e; omega
    · exact ih h2.2 ha2 hb2
theorem sort_segs {segs : List (List Rc)} {lo : Nat} {ps : List Pt} (hp : ps.Perm (segPs lo segs)) (hs : ps.Pairwise (fun a b => a.k ≤ b.k)) : ps = segPs lo segs := by
  obtain ⟨_, h2⟩ := segPs_lt segs lo
  refine List.Perm.eq_of_pairwise (le := fun a b : Pt => a.k ≤ b.k) (fun a b ha hb h3 h4 => ?_) hs (h2.imp fun h => Nat.le_of_lt h) hp
  exact keys_inj h2 (hp.mem_iff.1 ha) hb (by omega)
theorem parts_on {D : Dsk} {l : Lg} {lo : Nat} {segs : List (List Rc)} (h : LogOn D l lo segs) : ∃ ps, partsF D.fs = some ps ∧ sortP ps = segPs lo segs := by
  have hf := h.file
  have hw := h.few
  obtain ⟨ps, e, hp⟩ := partsF_perm h.perm.symm (partsF_segs segs h.ok h.lo0 (by omega))
  exact ⟨ps, e, sort_segs ((List.mergeSort_perm _ _).trans hp.symm) (sortP_sorted ps)⟩
theorem okP_segs : ∀ (segs : List (List Rc)) (lo : Nat), lo + segs.length ≤ 100000001 → okP (segPs lo segs) = true
  | [], _, _ => rfl
  | [rs], lo, h => by simp [segPs, okP]; simp at h; omega
  | rs :: qs :: ss, lo, h => by
    have ih := okP_segs (qs :: ss) (lo + 1) (by simp at h ⊢; omega)
    show (decide (lo ≤ 100000000) && !false && decide (lo + 1 = lo + 1) && okP (segPs (lo + 1) (qs :: ss))) = true
    rw [ih]
    simp at h ⊢
    omega
theorem fromP_none : ∀ (segs : List (List Rc)) (lo : Nat), (∀ s ∈ segs, ∀ r ∈ s, r.k ≠ 3) → fromP (segPs lo segs) = none
  | [], _, _ => rfl
  | rs :: ss, lo, h => by
    have ih := fromP_none ss (lo + 1) (fun s hs => h s (List.mem_cons_of_mem _ hs))
    show (match fromP (segPs (lo + 1) ss) with | some i => some (i + 1) | none => if isBase ⟨lo, rs, (recsB rs).length, false⟩ = true then some 0 else none) = none
    rw [ih]
    cases rs with
    | nil => rfl
    | cons r rs =>
      have := h _ List.mem_cons_self r List.mem_cons_self
      simp [isBase, this]
theorem segPs_rs : ∀ (segs : List (List Rc)) (lo : Nat), (segPs lo segs).map (·.rs) = segs
  | [], _ => rfl
  | rs :: ss, lo => by show rs :: _ = _; rw [segPs_rs ss (lo + 1)]
theorem readL_on {D : Dsk} {l : Lg} {lo : Nat} {segs : List (List Rc)} (h : LogOn D l lo segs) : readL (segPs lo segs) = some (0, l.c) := by
  obtain ⟨r, rs, ss, rfl, h3, hn⟩ := h.base
  have hf := h.file
  have hw := h.few
  have hc := h.c
  unfold readL
  rw [if_pos (okP_segs _ _ (by omega))]
  have e : fromP (segPs lo ((r :: rs) :: ss)) = some 0 := by
    show (match fromP (segPs (lo + 1) ss) with | some i => some (i + 1) | none => if isBase ⟨lo, r :: rs, (recsB (r :: rs)).length, false⟩ = true then some 0 else none) = some 0
    rw [fromP_none ss (lo + 1) hn]
    simp [isBase, h3]
  rw [e]
  show (doAll Cn.zero (((segPs lo ((r :: rs) :: ss)).drop 0).map (·.rs)).flatten true).map (fun c => (0, c)) = _
  rw [List.drop_zero, segPs_rs, hc]; rfl
end Go.Proofs.YtajapgjemefoiaaGreatDoor
/- Layer 19 (wal): number: which file of the log a name is: what it answers. -/
set_option maxRecDepth 100000
set_option maxHeartbeats 4000000
set_option linter.unusedVariables false
set_option linter.unusedSimpArgs false
namespace Go.Proofs.YtajapgjemefoiaaGreatDoor
open Go.RowKit Go.SW
def cutS (s : List UInt8) : List UInt8 := if s.take 3 = [108, 111, 103] then s.drop 3 else s
theorem prefix3 (s : List UInt8) : Lib.hasPrefix s [108, 111, 103] = decide (s.take 3 = [108, 111, 103]) := by
  unfold Lib.hasPrefix
  rw [Bool.eq_iff_iff, List.isPrefixOf_iff_prefix, decide_eq_true_eq, List.prefix_iff_eq_take]
  exact ⟨fun h => h.symm, fun h => h.symm⟩
theorem CutLog_ct (s : List UInt8) (w : World) :
    Fun Tryz.prog 101 [.string (bs s), .string (bs [108, 111, 103])] w fun v w' => v = .tuple #[.string (bs (cutS s)), .bool (decide (s.take 3 = [108, 111, 103]))] ∧ Fresh w w' [] := by
  refine Calls.mono (Tryz.strings_CutPrefix (bs s) (bs [108, 111, 103]) w) ?_
  rintro e w' ⟨rfl, rfl⟩
  refine ⟨_, rfl, ?_, (Hp.start _).fresh⟩
  have e1 : (bs s).data.toList = s := by simp [bs]
  have e2 : (bs [108, 111, 103]).data.toList = [108, 111, 103] := by simp [bs]
  rw [e1, e2, prefix3]
  have e3 : Lib.trimPrefix s [108, 111, 103] = cutS s := by
    unfold Lib.trimPrefix cutS
    rw [prefix3]
    by_cases h : s.take 3 = [108, 111, 103] <;> simp [h]
  rw [e3]; rfl
def digB (c : UInt8) : Bool := decide (48 ≤ c.toNat) && decide (c.toNat ≤ 57)
theorem decV_lt : ∀ (l : List UInt8), l.all digB = true → decV l < 10 ^ l.length := by
  intro l
  obtain ⟨n, hn⟩ : ∃ n, l.length = n := ⟨_, rfl⟩
  induction n generalizing l with
  | zero => intro _; rw [List.length_eq_zero_iff.1 hn]; decide
  | succ n ih =>
    intro h
    rcases List.eq_nil_or_concat l with rfl | ⟨l, c, rfl⟩
    · simp at hn
    rw [List.concat_eq_append] at *
    rw [List.all_append] at h
    simp only [Bool.and_eq_true, List.all_cons, List.all_nil, Bool.and_true, digB, decide_eq_true_eq] at h
    have hl : l.length = n := by simp at hn; omega
    have := ih l hl h.1
    rw [decV_snoc, hn, Nat.pow_succ, ← hl]
    omega
theorem numF_is {s : List UInt8} (h1 : s.take 3 = [108, 111, 103]) (h2 : cutS s ≠ []) (h3 : gb (cutS s) 0 ≠ 48) (h4 : (cutS s).length ≤ 9) (h5 : (cutS s).all digB = true) : numF s = decV (cutS s) := by
  have e : cutS s = s.drop 3 := if_pos h1
  rw [e] at h2 h3 h4 h5 ⊢
  have hl : 3 < s.length := by
    refine Nat.lt_of_not_le fun h => h2 (List.drop_eq_nil_of_le h)
  unfold numF
  rw [List.length_drop] at h4
  have h7 : gb s 3 ≠ 48 := fun h6 => h3 (by simpa [gb, List.getD_eq_getElem?_getD, List.getElem?_drop] using h6)
  exact if_pos ⟨h1, hl, h7, by omega, h5⟩
theorem numF_not {s : List UInt8} (h : s.take 3 ≠ [108, 111, 103] ∨ cutS s = [] ∨ gb (cutS s) 0 = 48 ∨ 9 < (cutS s).length ∨ (cutS s).all digB ≠ true) : numF s = 0 := by
  unfold numF
  refine if_neg ?_
  rintro ⟨h1, h2, h3, h4, h5⟩
  have e : cutS s = s.drop 3 := if_pos h1
  rw [e] at h
  rcases h with h | h | h | h | h
  · exact h h1
  · have := congrArg List.length h; simp at this; omega
  · refine h3 ?_
    simpa [gb, List.getD_eq_getElem?_getD, List.getElem?_drop] using h
  · rw [List.length_drop] at h; omega
  · exact h h5
theorem all_bad {l : List UInt8} {i : Nat} (hi : i < l.length) (h : gb l i < 48 ∨ 57 < gb l i) : l.all digB ≠ true := by
  intro h2
  have h3 := List.all_eq_true.1 h2 l[i] (List.getElem_mem hi)
  simp only [digB, Bool.and_eq_true, decide_eq_true_eq] at h3
  have e : gb l i = l[i].toNat := by simp [gb, List.getD_eq_getElem?_getD, List.getElem?_eq_getElem hi]
  omega
theorem dig_next {l : List UInt8} {i : Nat} (hi : i < l.length) (h : (l.take i).all digB = true) (h1 : 48 ≤ gb l i) (h2 : gb l i ≤ 57) : (l.take (i + 1)).all digB = true ∧ decV (l.take (i + 1)) = 10 * decV (l.take i) + (gb l i - 48) := by
  have e : gb l i = l[i].toNat := by simp [gb, List.getD_eq_getElem?_getD, List.getElem?_eq_getElem hi]
  rw [List.take_succ_eq_append_getElem hi, List.all_append, h, decV_snoc, e]
  refine ⟨?_, rfl⟩
  simp only [List.all_cons, List.all_nil, Bool.and_true, Bool.true_and, digB, Bool.and_eq_true, decide_eq_true_eq]
  omega

theorem Number_ct (s : List UInt8) (w : World) (hs : s.length ≤ 140737488355328) :
    Fun Tryz.prog 65 [.string (bs s)] w fun v w' => v = .int .i64 ((numF s : Nat) : Int) ∧ Fresh w w' [] := by
 refine fun_of_sw Tryz.func65 rfl 53 rfl rfl ?_
 have hH := Hp.start w
 refine sw_sr ?_
 refine glo 1 [(0, .string (bs s))] ?_
 refine gl_dn rfl ?_
 refine sw_sr ?_
 refine glo 1 [(8, .string (bs s))] ?_
 refine gl_st (st_call rfl rfl rfl (by kernel_rfl) rfl (CutLog_ct s _) ?_)
 rintro _ w1 ⟨rfl, hF2⟩
 replace hH := hH.call hF2; clear hF2
 refine glo 5 [(3, .string (bs (cutS s))), (4, .bool (decide (s.take 3 = [108, 111, 103])))] ?_
 refine gl_dn rfl ?_
 refine sw_seq ?_
 refine sw_sr ?_
 refine glo 3 [(3, .string (bs (cutS s))), (14, .bool (!(decide (s.take 3 = [108, 111, 103]))))] ?_
 refine gl_split 14 (b := !(decide (s.take 3 = [108, 111, 103]))) rfl (fun hg1 => ?_) (fun hg1 => ?_)
 ·
  try simp only [Bool.not_eq_true', decide_eq_false_iff_not, Int.not_lt, Int.not_le] at hg1
  have hw := hg1
  refine glo 13 [(3, .string (bs (cutS s))), (27, .bool true)] ?_
  refine gl_dn rfl ?_
  refine sw_true rfl rfl ?_
  refine sw_sr ?_
  refine glo 1 [(2, .int .i64 0)] ?_
  refine gl_dn rfl ?_
  refine sw_ret ?_
  refine thR ?_
  refine ret1 rfl rfl  ?_
  exact ⟨by rw [numF_not (.inl hw)]; rfl, hH.fresh⟩
 try simp only [Bool.not_eq_false', decide_eq_true_eq] at hg1
 have hw1 := hg1
 refine glo 1 [(3, .string (bs (cutS s))), (14, .bool false), (15, .string (bs (cutS s)))] ?_
 refine gl_q rfl rfl rfl (rd_seql (by kernel_rfl) rfl rfl) ?_
 refine glo 2 [(3, .string (bs (cutS s))), (18, .bool ((cutS s) == []))] ?_
 refine gl_split 18 (b := (cutS s) == []) rfl (fun hg3 => ?_) (fun hg3 => ?_)
 ·
  try simp only [beq_iff_eq] at hg3
  have hw := hg3
  refine glo 9 [(3, .string (bs (cutS s))), (27, .bool true)] ?_
  refine gl_dn rfl ?_
  refine sw_true rfl rfl ?_
  refine sw_sr ?_
  refine glo 1 [(2, .int .i64 0)] ?_
  refine gl_dn rfl ?_
  refine sw_ret ?_
  refine thR ?_
  refine ret1 rfl rfl  ?_
  exact ⟨by rw [numF_not (.inr (.inl hw))]; rfl, hH.fresh⟩
 try simp only [beq_eq_false_iff_ne, ne_eq] at hg3
 have hw2 := hg3
 have hr0 : 0 < (cutS s).length := List.length_pos_iff.2 hw2
 refine glo 1 [(3, .string (bs (cutS s))), (18, .bool false), (19, .string (bs (cutS s)))] ?_
 refine gl_q rfl rfl rfl (rd_sidx (by kernel_rfl) rfl 0 rfl (by omega)) ?_
 refine glo 3 [(3, .string (bs (cutS s))), (23, .bool (((gb (cutS s) 0 : Nat) : Int) == (48 : Int)))] ?_
 refine gl_split 23 (b := ((gb (cutS s) 0 : Nat) : Int) == (48 : Int)) rfl (fun hg5 => ?_) (fun hg5 => ?_)
 ·
  try simp only [beq_iff_eq] at hg5
  have hw := hg5
  refine glo 4 [(3, .string (bs (cutS s))), (27, .bool true)] ?_
  refine gl_dn rfl ?_
  refine sw_true rfl rfl ?_
  refine sw_sr ?_
  refine glo 1 [(2, .int .i64 0)] ?_
  refine gl_dn rfl ?_
  refine sw_ret ?_
  refine thR ?_
  refine ret1 rfl rfl  ?_
  exact ⟨by rw [numF_not (.inr (.inr (.inl (by omega))))]; rfl, hH.fresh⟩
 try simp only [beq_eq_false_iff_ne, ne_eq] at hg5
 have hw3 := hg5
 refine glo 2 [(3, .string (bs (cutS s))), (23, .bool false), (25, .int .i64 (((bs (cutS s)).size : Nat) : Int))] ?_
 refine gl_cv 25 (Ni ((cutS s).length)) (by rw [bs_size]) rfl ?_
 refine glo 2 [(3, .string (bs (cutS s))), (27, .bool (decide ((((cutS s).length : Nat) : Int) > (9 : Int))))] ?_
 refine gl_dn rfl ?_
 refine sw_cond rfl rfl (fun hc7 => ?_) (fun hc7 => ?_)
 ·
  try simp only [decide_eq_true_eq] at hc7
  refine sw_sr ?_
  refine glo 1 [(2, .int .i64 0)] ?_
  refine gl_dn rfl ?_
  refine sw_ret ?_
  refine thR ?_
  refine ret1 rfl rfl  ?_
  exact ⟨by rw [numF_not (.inr (.inr (.inr (.inl (by omega)))))]; rfl, hH.fresh⟩
 try simp only [decide_eq_false_iff_not, Int.not_lt, Int.not_le] at hc7
 refine sw_skip ?_
 refine sw_next ?_
 refine sw_sr ?_
 refine glo 1 [(3, .string (bs (cutS s))), (5, .int .i64 0)] ?_
 refine gl_dn rfl ?_
 refine sw_seq ?_
 refine sw_sr ?_
 refine glo 2 [(3, .string (bs (cutS s))), (5, .int .i64 0), (29, .int .i64 (((bs (cutS s)).size : Nat) : Int))] ?_
 refine gl_cv 29 (Ni ((cutS s).length)) (by rw [bs_size]) rfl ?_
 refine glo 1 [(3, .string (bs (cutS s))), (5, .int .i64 0), (29, Ni ((cutS s).length)), (30, .int .i64 0)] ?_
 refine gl_dn rfl ?_
 refine sw_block ?_
 refine sw_loop (γ := Nat) (fun i => [(3, .string (bs (cutS s))), (5, Ni (decV ((cutS s).take i))), (29, Ni ((cutS s).length)), (30, Ni i)]) (fun i w_ => (i ≤ (cutS s).length) ∧ (((cutS s).take i).all digB = true) ∧ Hp w w_ (w.cell?) [] []) (fun i => (cutS s).length - i) (0) (Sub.of_eq (by kernel_rfl)) ?_ ?_
 · exact ⟨Nat.zero_le _, by simp, hH⟩
 clear hH
 rintro i w3 ⟨hi, hall, hH⟩
 have hlt := decV_lt _ hall
 rw [List.length_take, Nat.min_eq_left hi] at hlt
 have hpw : 10 ^ i ≤ 10 ^ 9 := Nat.pow_le_pow_right (by omega) (by omega)
 have hgb := gb_lt (cutS s) i
 refine swk [(3, .string (bs (cutS s))), (5, Ni (decV ((cutS s).take i))), (29, Ni ((cutS s).length)), (30, Ni i)] ?_
 refine sw_sr ?_
 refine glo 1 [(3, .string (bs (cutS s))), (5, Ni (decV ((cutS s).take i))), (29, Ni ((cutS s).length)), (30, Ni i), (31, .bool (decide (((i : Nat) : Int) < (((cutS s).length : Nat) : Int))))] ?_
 refine gl_dn rfl ?_
 refine sw_seq ?_
 refine sw_cond rfl rfl (fun hc8 => ?_) (fun hc8 => ?_)
 ·
  try simp only [decide_eq_true_eq] at hc8
  refine sw_skip ?_
  refine sw_next ?_
  refine sw_seq ?_
  refine sw_block ?_
  refine sw_sr ?_
  refine glo 2 [(3, .string (bs (cutS s))), (5, Ni (decV ((cutS s).take i))), (6, Ni i), (29, Ni ((cutS s).length)), (30, Ni i)] ?_
  refine gl_dn rfl ?_
  refine sw_seq ?_
  refine sw_sr ?_
  refine glo 2 [(3, .string (bs (cutS s))), (5, Ni (decV ((cutS s).take i))), (6, Ni i), (29, Ni ((cutS s).length)), (30, Ni i), (33, .string (bs (cutS s))), (34, Ni i)] ?_
  refine gl_q rfl rfl rfl (rd_sidx (by kernel_rfl) rfl i rfl (by omega)) ?_
  refine glo 2 [(3, .string (bs (cutS s))), (5, Ni (decV ((cutS s).take i))), (6, Ni i), (29, Ni ((cutS s).length)), (30, Ni i), (37, .bool (decide (((gb (cutS s) i : Nat) : Int) < (48 : Int))))] ?_
  refine gl_split 37 (b := decide (((gb (cutS s) i : Nat) : Int) < (48 : Int))) rfl (fun hg9 => ?_) (fun hg9 => ?_)
  ·
   try simp only [decide_eq_true_eq] at hg9
   refine glo 5 [(3, .string (bs (cutS s))), (5, Ni (decV ((cutS s).take i))), (6, Ni i), (29, Ni ((cutS s).length)), (30, Ni i), (42, .bool true)] ?_
   refine gl_dn rfl ?_
   refine sw_true rfl rfl ?_
   refine sw_sr ?_
   refine glo 1 [(2, .int .i64 0)] ?_
   refine gl_dn rfl ?_
   refine sw_ret ?_
   refine thR ?_
   refine bkR ?_
   refine thR ?_
   refine thR ?_
   refine bkR ?_
   refine thR ?_
   refine ret1 rfl rfl  ?_
   exact ⟨by rw [numF_not (.inr (.inr (.inr (.inr (all_bad (l := cutS s) (i := i) (by omega) (by omega))))))]; rfl, hH.fresh⟩
  try simp only [decide_eq_false_iff_not, Int.not_lt, Int.not_le] at hg9
  refine glo 2 [(3, .string (bs (cutS s))), (5, Ni (decV ((cutS s).take i))), (6, Ni i), (29, Ni ((cutS s).length)), (30, Ni i), (37, .bool false), (38, .string (bs (cutS s))), (39, Ni i)] ?_
  refine gl_q rfl rfl rfl (rd_sidx (by kernel_rfl) rfl i rfl (by omega)) ?_
  refine glo 2 [(3, .string (bs (cutS s))), (5, Ni (decV ((cutS s).take i))), (6, Ni i), (29, Ni ((cutS s).length)), (30, Ni i), (42, .bool (decide (((gb (cutS s) i : Nat) : Int) > (57 : Int))))] ?_
  refine gl_dn rfl ?_
  refine sw_cond rfl rfl (fun hc11 => ?_) (fun hc11 => ?_)
  ·
   try simp only [decide_eq_true_eq] at hc11
   refine sw_sr ?_
   refine glo 1 [(2, .int .i64 0)] ?_
   refine gl_dn rfl ?_
   refine sw_ret ?_
   refine thR ?_
   refine bkR ?_
   refine thR ?_
   refine thR ?_
   refine bkR ?_
   refine thR ?_
   refine ret1 rfl rfl  ?_
   exact ⟨by rw [numF_not (.inr (.inr (.inr (.inr (all_bad (l := cutS s) (i := i) (by omega) (by omega))))))]; rfl, hH.fresh⟩
  try simp only [decide_eq_false_iff_not, Int.not_lt, Int.not_le] at hc11
  refine sw_skip ?_
  refine sw_next ?_
  have hnx := dig_next (l := (cutS s)) (i := i) (by omega) hall (by omega) (by omega)
  refine sw_region ?_
  refine glo 2 [(3, .string (bs (cutS s))), (6, Ni i), (29, Ni ((cutS s).length)), (30, Ni i), (44, .int .i64 (IntKind.i64.wrap (10 * ((decV ((cutS s).take i) : Nat) : Int))))] ?_
  refine gl_cv 44 (Ni (10 * (decV ((cutS s).take i)))) (cv_i64 (by omega)) rfl ?_
  refine glo 2 [(3, .string (bs (cutS s))), (29, Ni ((cutS s).length)), (30, Ni i), (44, Ni (10 * (decV ((cutS s).take i)))), (45, .string (bs (cutS s))), (46, Ni i)] ?_
  refine gl_q rfl rfl rfl (rd_sidx (by kernel_rfl) rfl i rfl (by omega)) ?_
  refine glo 1 [(3, .string (bs (cutS s))), (29, Ni ((cutS s).length)), (30, Ni i), (44, Ni (10 * (decV ((cutS s).take i)))), (48, .int .u8 (IntKind.u8.wrap (((gb (cutS s) i : Nat) : Int) - 48)))] ?_
  refine gl_cv 48 (.int .u8 (((gb (cutS s) i) - 48 : Nat) : Int)) (cv_u8 (by omega)) rfl ?_
  refine glo 1 [(3, .string (bs (cutS s))), (29, Ni ((cutS s).length)), (30, Ni i), (44, Ni (10 * (decV ((cutS s).take i)))), (49, .int .i64 (IntKind.i64.wrap (((gb (cutS s) i) - 48 : Nat) : Int)))] ?_
  refine gl_cv 49 (Ni ((gb (cutS s) i) - 48)) (cv_i64 (by omega)) rfl ?_
  refine glo 1 [(3, .string (bs (cutS s))), (29, Ni ((cutS s).length)), (30, Ni i), (50, .int .i64 (IntKind.i64.wrap (((10 * (decV ((cutS s).take i)) : Nat) : Int) + (((gb (cutS s) i) - 48 : Nat) : Int))))] ?_
  refine gl_cv 50 (Ni (decV ((cutS s).take (i + 1)))) (by rw [hnx.2]; exact cv_i64 (by omega)) rfl ?_
  refine glo 1 [(3, .string (bs (cutS s))), (5, Ni (decV ((cutS s).take (i + 1)))), (29, Ni ((cutS s).length)), (30, Ni i)] ?_
  refine gl_done rfl ?_
  refine bkN ?_
  refine sw_next ?_
  refine sw_region ?_
  refine glo 1 [(3, .string (bs (cutS s))), (5, Ni (decV ((cutS s).take (i + 1)))), (29, Ni ((cutS s).length)), (51, .int .i64 (IntKind.i64.wrap (((i : Nat) : Int) + 1)))] ?_
  refine gl_cv 51 (Ni (i + 1)) (cv_i64 (by omega)) rfl ?_
  refine glo 1 [(3, .string (bs (cutS s))), (5, Ni (decV ((cutS s).take (i + 1)))), (29, Ni ((cutS s).length)), (30, Ni (i + 1))] ?_
  refine gl_done rfl ?_
  refine rnd_end (g := (i)) (i + 1) (by kernel_rfl) ?_ ?_
  · exact ⟨by omega, hnx.1, hH⟩
  · show (cutS s).length - (i + 1) < (cutS s).length - i; omega
 try simp only [decide_eq_false_iff_not, Int.not_lt, Int.not_le] at hc8
 refine sw_exit ?_
 refine thX ?_
 refine thX ?_
 refine bkH ?_
 refine sw_next ?_
 refine sw_sr ?_
 refine glo 2 [(2, Ni (decV ((cutS s).take i)))] ?_
 refine gl_dn rfl ?_
 refine sw_ret ?_
 refine ret1 rfl rfl  ?_
 have hie : i = (cutS s).length := by omega
 subst hie
 rw [List.take_length] at hall ⊢
 exact ⟨by rw [numF_is hw1 hw2 (by omega) (by omega) hall], hH.fresh⟩
end Go.Proofs.YtajapgjemefoiaaGreatDoor
