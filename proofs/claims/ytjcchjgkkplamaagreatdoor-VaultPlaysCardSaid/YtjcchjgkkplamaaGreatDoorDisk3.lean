/- Layer 18 (disk), the program's: Files, Start, Arm, Down, New: what they answer. -/
import Derived.Test.YtjcchjgkkplamaaGreatDoorDisk2
import Derived.Test.YtjcchjgkkplamaaGreatDoorKeys
import Derived.Test.YtjcchjgkkplamaaGreatDoorCalc
set_option maxRecDepth 100000
set_option maxHeartbeats 2000000
set_option linter.unusedVariables false
set_option linter.unusedSimpArgs false
namespace Go.Proofs.YtjcchjgkkplamaaGreatDoor
open Go.RowKit Go.SW
/-- A file as handed out, its bytes' value beside it. -/
def filC (q : Fil × Value) : List Value := [.string (bs q.1.name), q.2, .int .i64 ((q.1.sure : Nat) : Int)]
theorem filC_len (q : Fil × Value) : (filC q).length = 3 := rfl
def filR (q : Fil × Value) : Own := .row q.2 5 1 q.1.b.length (bv q.1.b)
def filRs (qs : List (Fil × Value)) : Own := .grp (qs.map filR)
theorem filC_snoc (qs : List (Fil × Value)) (q : Fil × Value) : rowC filC qs ++ filC q = rowC filC (qs ++ [q]) := by simp [rowC]
theorem pe_at {es : List PE} {F : List Fil} (hR : Rep es F) {i : Nat} {f : Fil} (h : F[i]? = some f) : ∃ fb fv, es[ixE es f.name]? = some ⟨f.name, fb, fv, f.b, f.sure⟩ ∧ fV es f.name = .pointer (some ⟨fb, 0, none⟩) ∧ ixE es f.name < es.length := by
  have h1 := rep_get hR f.name
  rw [(getF_some hR.srt).2 ⟨List.mem_of_getElem? h, rfl⟩] at h1
  obtain ⟨⟨nm, fb, fv, b, sr⟩, h2, h3⟩ := Option.map_eq_some_iff.1 h1
  subst h3
  exact ⟨fb, fv, h2, by unfold fV; rw [h2], (List.getElem?_eq_some_iff.1 h2).1⟩
def partF (F : List Fil) (ks : List Int) (i : Nat) : List Fil := F.mapIdx fun j f => if j < i then startF1 f j ks else f
theorem partF_zero (F : List Fil) (ks : List Int) : partF F ks 0 = F := by
  unfold partF
  apply List.ext_getElem?
  intro j
  rw [List.getElem?_mapIdx]; cases F[j]? <;> simp
theorem partF_all {F : List Fil} {ks : List Int} {i : Nat} (hi : F.length ≤ i) : partF F ks i = startF F ks := by
  unfold partF startF
  apply List.ext_getElem?
  intro j
  rw [List.getElem?_mapIdx, List.getElem?_mapIdx]
  cases hj : F[j]? with
  | none => rfl
  | some f =>
    have := (List.getElem?_eq_some_iff.1 hj).1
    simp only [Option.map_some]; rw [if_pos (by omega)]
theorem partF_at {F : List Fil} {ks : List Int} {i : Nat} {f : Fil} (h : F[i]? = some f) : (partF F ks i)[i]? = some f := by
  unfold partF
  rw [List.getElem?_mapIdx, h]; simp
theorem partF_next {F : List Fil} {ks : List Int} {i : Nat} {f : Fil} (h : F[i]? = some f) : (partF F ks i).set i (startF1 f i ks) = partF F ks (i + 1) := by
  unfold partF
  apply List.ext_getElem?
  intro j
  rw [List.getElem?_set, List.getElem?_mapIdx, List.getElem?_mapIdx]
  by_cases hij : i = j
  · subst hij
    have := (List.getElem?_eq_some_iff.1 h).1
    rw [if_pos rfl, if_pos (by simpa using this), h]; simp
  · rw [if_neg hij]
    cases F[j]? with
    | none => rfl
    | some g =>
      simp only [Option.map_some]
      by_cases h1 : j < i
      · rw [if_pos h1, if_pos (by omega)]
      · rw [if_neg h1, if_neg (by omega)]
theorem partF_srt {F : List Fil} (h : Srt F) (ks : List Int) (i : Nat) : Srt (partF F ks i) := by
  unfold Srt partF
  rw [List.pairwise_iff_getElem]
  intro a b ha hb hab
  have := List.pairwise_iff_getElem.1 h a b (by simpa using ha) (by simpa using hb) hab
  simp only [List.getElem_mapIdx]
  split <;> split <;> simpa [startF1] using this
theorem setF_at {F : List Fil} (h : Srt F) {i : Nat} {f f' : Fil} (hi : F[i]? = some f) (hn : f'.name = f.name) (hs : Srt (F.set i f')) : setF F f' = F.set i f' := by
  refine srt_eq (srt_set h f') hs (perm_of_mem (srt_nodup (srt_set h f')) (srt_nodup hs) fun g => ?_)
  have hil := (List.getElem?_eq_some_iff.1 hi).1
  rw [mem_set]
  constructor
  · rintro (rfl | ⟨h1, h2⟩)
    · exact List.mem_of_getElem? (i := i) (by rw [List.getElem?_set, if_pos rfl, if_pos hil])
    · obtain ⟨j, hj⟩ := List.getElem?_of_mem h1
      have hij : i ≠ j := by
        rintro rfl
        rw [hi] at hj
        cases hj
        exact h2 hn.symm
      exact List.mem_of_getElem? (i := j) (by rw [List.getElem?_set, if_neg hij]; exact hj)
  · intro hg
    obtain ⟨j, hj⟩ := List.getElem?_of_mem hg
    rw [List.getElem?_set] at hj
    by_cases hij : i = j
    · rw [if_pos hij, if_pos (hij ▸ hil)] at hj
      cases hj
      exact .inl rfl
    · rw [if_neg hij] at hj
      refine .inr ⟨List.mem_of_getElem? hj, fun e => ?_⟩
      have hnd := srt_nodup h
      have h4 : (F.map (·.name))[i]? = (F.map (·.name))[j]? := by rw [List.getElem?_map, List.getElem?_map, hi, hj]; simp [e, hn]
      exact hij ((List.getElem?_inj (by simpa using hil) hnd).1 h4)
theorem part_rep {es : List PE} {F : List Fil} {ks : List Int} {i : Nat} {f : Fil} (hS : Srt F) (hR : Rep es (partF F ks i)) (hi : F[i]? = some f) {k : Nat} {e : PE} (he : es[k]? = some e) (e' : PE) (hn : e'.name = e.name) (hf : e'.fil = startF1 f i ks) : Rep (es.set k e') (partF F ks (i + 1)) := by
  have h1 := rep_set hR he e' hn
  have h2 : (partF F ks i).set i (startF1 f i ks) = partF F ks (i + 1) := partF_next hi
  rw [hf, setF_at (f' := startF1 f i ks) hR.srt (partF_at hi) rfl (by rw [h2]; exact partF_srt hS ks _), h2] at h1
  exact h1
theorem skeys_le {es : List PE} {F : List Fil} {M : Nat} (hR : Rep es F) (hG : Good F M) : ∀ p ∈ kvE es, p.1.length ≤ maxLen := by
  intro p hp
  obtain ⟨e, he, rfl⟩ := List.mem_map.1 hp
  have := hG.nm _ (hR.perm.mem_iff.1 (List.mem_map.2 ⟨e, he, rfl⟩))
  have h2 : e.fil.name = e.name := rfl
  rw [h2] at this
  simp only [maxLen]; omega
theorem kvE_names (es : List PE) : (kvE es).map (·.1) = es.map (·.name) := by simp [kvE]
theorem kvE_len {es : List PE} {F : List Fil} (hR : Rep es F) : (kvE es).length = F.length := by rw [← hR.perm.length_eq]; simp [kvE]
/-- The keys, in order, as cells. -/
def nmC (F : List Fil) : List Value := F.map fun f => .string (bs f.name)
theorem nmC_at {F : List Fil} {i : Nat} {f : Fil} (h : F[i]? = some f) : (nmC F)[i * 1 + 0]? = some (.string (bs f.name)) := by unfold nmC; rw [Nat.mul_one, Nat.add_zero, List.getElem?_map, h]; rfl
theorem keys_row {es : List PE} {F : List Fil} (hR : Rep es F) {ss : List (List UInt8)} (hs : ss.Perm ((kvE es).map (·.1))) : ss.length = F.length ∧ ((ss.mergeSort fun x y => decide (x ≤ y)).map fun s => Value.string (bs s)) = nmC F := by
  rw [kvE_names] at hs
  refine ⟨?_, ?_⟩
  · have h1 := hs.length_eq
    have h2 := hR.perm.length_eq
    simp only [List.length_map] at h1 h2
    omega
  · rw [rep_keys hR hs, List.map_map]; rfl
theorem arOk_arm (a p : Int) (h : a ≤ 9223372036854775807) (D : Dsk) : ArOk (armD D a p).ar := by
  intro b q e
  unfold armD at e
  split at e
  · simp only [Option.some.injEq, Prod.mk.injEq] at e; omega
  · cases e

theorem Arm_ct (db mb ab : Nat) (D : Dsk) (es : List PE) (acts part : Int) (w : World) (hM : Mine w (ownD db mb ab D es)) :
    Fun Tryz.prog 11 [.pointer (some ⟨db, 0, none⟩), .int .i64 acts, .int .i64 part] w fun v w' => ∃ ab', v = .tuple #[] ∧ Turn w w' (ownD db mb ab D es) [.grp (dskO db mb ab' (armD D acts part) es)] := by
  refine fun_of_sw Tryz.func11 rfl 18 rfl rfl ?_
  have hH : Hp w w (off w (blksOf (ownD db mb ab D es))) (blksOf (ownD db mb ab D es)) (dskO db mb ab D es ++ []) := (Hp.start_mine hM).open_
  replace hH : Hp w w _ _ [.blk db 70 [.map (some mb), .bool D.off, arV D.ar ab], .smap mb (kvE es), filsO es, .grp (armO D.ar ab)] := hH
  refine sw_sr ?_
  refine gl_ops 3 [(0, Pp db 0), (1, .int .i64 acts), (2, .int .i64 part), (8, Pp db 2)] (by kernel_rfl) ?_
  refine gl_st (st_storeK (v := .pointer none) 0 rfl rfl rfl hH rfl rfl rfl (by kernel_rfl) rfl (by simp) ?_)
  clear hH; intro w1 hH
  refine gl_dn rfl ?_
  refine sw_sr ?_
  refine gl_ops 2 [(0, Pp db 0), (1, .int .i64 acts), (2, .int .i64 part), (10, .bool (decide ((acts : Int) ≥ (0 : Int))))] (by kernel_rfl) ?_
  refine gl_dn rfl ?_
  refine sw_cond rfl rfl (fun hc1 => ?_) (fun hc1 => ?_)
  ·
    try simp only [decide_eq_true_eq] at hc1
    obtain ⟨k, rfl⟩ : ∃ k : Nat, acts = k := ⟨acts.toNat, by omega⟩
    refine sw_region ?_
    refine gl_ops 4 [(11, Pp db 0), (14, .agg #[Ni k, .int .i64 part])] (by kernel_rfl) ?_
    refine gl_st (st_boxH (cs := [Ni k, .int .i64 part]) rfl rfl rfl rfl hH ?_)
    clear hH; intro b2 w3 hH
    refine gl_ops 2 [(15, Pp b2 0), (17, Pp db 2)] (by kernel_rfl) ?_
    refine gl_st (st_storeK (v := Pp b2 0) 0 rfl rfl rfl hH rfl rfl rfl (by kernel_rfl) rfl (by simp) ?_)
    clear hH; intro w4 hH
    refine gl_done rfl ?_
    refine end0 rfl ?_
    have hr : armD D ((k : Nat) : Int) part = { D with ar := some (k, part) } := by unfold armD; rw [if_pos (by omega), Int.toNat_natCast]
    replace hH := hH.pick [0, 1, 2, 4, 3] (by kernel_rfl) (os' := [.blk db 70 [.map (some mb), .bool D.off, Pp b2 0], .smap mb (kvE es), filsO es, .blk b2 87 [Ni k, .int .i64 part], .grp (armO D.ar ab)]) (by kernel_rfl)
    replace hH := (hH.sublist (.cons_cons _ (.cons_cons _ (.cons_cons _ (.cons_cons _ (List.nil_sublist _))))))
    replace hH : Hp w w4 _ _ [.blk db 70 [.map (some mb), .bool D.off, Pp b2 0], .smap mb (kvE es), filsO es, .blk b2 87 [Ni k, .int .i64 part]] := hH
    have h2 : Hp w w4 _ _ (armO (some (k, part)) b2 ++ [.blk db 70 [.map (some mb), .bool D.off, Pp b2 0], .smap mb (kvE es), filsO es]) := (hH.pick [3, 0, 1, 2] (by kernel_rfl) rfl)
    have h3 := h2.close.pick [1, 2, 3, 0] (by kernel_rfl) rfl
    have h4 : Hp w w4 _ _ (dskO db mb b2 { D with ar := some (k, part) } es ++ []) := h3
    exact ⟨b2, rfl, by rw [hr]; exact h4.close.turned⟩
  try simp only [decide_eq_false_iff_not, Int.not_lt, Int.not_le] at hc1
  refine sw_skip ?_
  refine end0 rfl ?_
  have hr : armD D acts part = { D with ar := none } := by unfold armD; rw [if_neg (by omega)]
  replace hH := (hH.sublist (.cons_cons _ (.cons_cons _ (.cons_cons _ (List.nil_sublist _)))))
  replace hH : Hp w w1 _ _ [.blk db 70 [.map (some mb), .bool D.off, .pointer none], .smap mb (kvE es), filsO es] := hH
  have h3 := hH.nogrp
  have h4 : Hp w w1 _ _ (dskO db mb 0 { D with ar := none } es ++ []) := h3
  exact ⟨0, rfl, by rw [hr]; exact h4.close.turned⟩
theorem DNew_ct (w : World) : Fun Tryz.prog 6 [] w fun v w' => ∃ db mb, v = .pointer (some ⟨db, 0, none⟩) ∧ Fresh w w' [.grp (dskO db mb 0 ⟨[], false, none⟩ [])] := by
  refine fun_of_sw Tryz.func6 rfl 4 rfl rfl ?_
  have hH := Hp.start w
  refine sw_sr ?_
  refine gl_ops 1 [] (by kernel_rfl) ?_
  refine gl_dn rfl ?_
  refine sw_sr ?_
  refine gl_st (st_makeSm rfl rfl rfl hH ?_)
  clear hH; intro m1 w2 hH
  refine gl_ops 1 [(2, .agg #[.map (some m1), .bool false, .pointer none])] (by kernel_rfl) ?_
  refine gl_st (st_boxH (cs := [.map (some m1), .bool false, .pointer none]) rfl rfl rfl rfl hH ?_)
  clear hH; intro b3 w4 hH
  refine gl_ops 1 [(0, Pp b3 0)] (by kernel_rfl) ?_
  refine gl_dn rfl ?_
  refine sw_ret ?_
  refine ret1 rfl rfl  ?_
  replace hH := hH.pick [1, 0] (by kernel_rfl) (os' := [.blk b3 70 [.map (some m1), .bool false, .pointer none], .smap m1 []]) (by kernel_rfl)
  have h3 := hH.nogrp.nogrp
  have h4 : Hp w w4 _ _ (dskO b3 m1 0 ⟨[], false, none⟩ [] ++ []) := h3
  exact ⟨_, _, rfl, h4.close.fresh⟩
theorem take_next {α : Type} {l : List α} {i : Nat} {f : α} (h : l[i]? = some f) : l.take i ++ [f] = l.take (i + 1) := by
  have hi := (List.getElem?_eq_some_iff.1 h)
  obtain ⟨h1, h2⟩ := hi
  rw [List.take_succ_eq_append_getElem h1, h2]

theorem Files_ct (db mb ab : Nat) (D : Dsk) (es : List PE) (M : Nat) (w : World) (hM : Mine w (ownD db mb ab D es)) (hR : Rep es D.fs) (hG : Good D.fs M) (hMM : M ≤ 140737488355328) (hN : D.fs.length ≤ 1000000) :
    Fun Tryz.prog 22 [.pointer (some ⟨db, 0, none⟩)] w fun v w' => ∃ v1 qs, v = v1 ∧ qs.map (·.1) = D.fs ∧ Turn w w' (ownD db mb ab D es) [.grp (dskO db mb ab D es), .row v1 93 3 qs.length (rowC filC qs), filRs qs] := by
  refine fun_of_sw Tryz.func22 rfl 40 rfl rfl ?_
  have hH : Hp w w (off w (blksOf (ownD db mb ab D es))) (blksOf (ownD db mb ab D es)) (dskO db mb ab D es ++ []) := (Hp.start_mine hM).open_
  replace hH : Hp w w _ _ [.blk db 70 [.map (some mb), .bool D.off, arV D.ar ab], .smap mb (kvE es), filsO es, .grp (armO D.ar ab)] := hH
  refine sw_sr ?_
  refine gl_ops 1 [(0, Pp db 0)] (by kernel_rfl) ?_
  refine gl_dn rfl ?_
  refine sw_sr ?_
  refine gl_ops 1 [(0, Pp db 0), (3, .slice none 0 0)] (by kernel_rfl) ?_
  refine gl_dn rfl ?_
  refine sw_seq ?_
  replace hH := (hH.nogrp).nilRow 93 3
  replace hH : Hp w w _ _ [.blk db 70 [.map (some mb), .bool D.off, arV D.ar ab], .smap mb (kvE es), filsO es, .grp (armO D.ar ab), filRs [], .row (.slice none 0 0) 93 3 0 []] := hH
  refine sw_sr ?_
  refine gl_ops 3 [(0, Pp db 0), (3, .slice none 0 0), (9, Pp db 0)] (by kernel_rfl) ?_
  refine gl_q rfl rfl rfl (rd_loadK 0 (by kernel_rfl) hH rfl rfl rfl) ?_
  refine gl_st (st_call rfl rfl rfl (by kernel_rfl) rfl (MapsKeys_ct mb _) ?_)
  rintro _ w2 ⟨kb1, rfl, hF3⟩
  replace hH := hH.call hF3; clear hF3
  replace hH : Hp w w2 _ _ [.blk db 70 [.map (some mb), .bool D.off, arV D.ar ab], .smap mb (kvE es), filsO es, .grp (armO D.ar ab), filRs [], .row (.slice none 0 0) 93 3 0 [], .blk kb1 67 [.map (some mb)]] := hH
  refine gl_st (st_call rfl rfl rfl (by kernel_rfl) rfl (SortedKeys_ct kb1 mb _ _ (hH.blk_cell 6 rfl rfl) (hH.own _ (List.mem_of_getElem? (i := 1) rfl)) (skeys_le hR hG) (by rw [kvE_len hR]; omega)) ?_)
  rintro _ w4 ⟨ss, kv, rfl, hperm, hF5⟩
  replace hH := hH.call hF5; clear hF5
  obtain ⟨hs1, hs2⟩ := keys_row hR hperm
  rw [hs1, hs2] at hH
  obtain ⟨A6, c7, rfl, hl8, hm9⟩ := hH.row_form 7 rfl
  replace hH : Hp w w4 _ _ [.blk db 70 [.map (some mb), .bool D.off, arV D.ar ab], .smap mb (kvE es), filsO es, .grp (armO D.ar ab), filRs [], .row (.slice none 0 0) 93 3 0 [], .blk kb1 67 [.map (some mb)], .row (.slice A6 D.fs.length c7) 9 1 D.fs.length (nmC D.fs)] := hH
  refine gl_q rfl rfl rfl (rd_len (e := 9) (by kernel_rfl) rfl) ?_
  refine gl_ops 1 [(0, Pp db 0), (3, .slice none 0 0), (12, .slice A6 D.fs.length c7), (13, Ni D.fs.length), (14, .int .i64 0)] (by kernel_rfl) ?_
  refine gl_dn rfl ?_
  refine sw_block ?_
  replace hH := hH.pick [0, 1, 2, 3, 7, 4, 5, 6] (by kernel_rfl) (os' := [.blk db 70 [.map (some mb), .bool D.off, arV D.ar ab], .smap mb (kvE es), filsO es, .grp (armO D.ar ab), .row (.slice A6 D.fs.length c7) 9 1 D.fs.length (nmC D.fs), filRs [], .row (.slice none 0 0) 93 3 0 [], .blk kb1 67 [.map (some mb)]]) (by kernel_rfl)
  replace hH := (hH.sublist (.cons_cons _ (.cons_cons _ (.cons_cons _ (.cons_cons _ (.cons_cons _ (.cons_cons _ (.cons_cons _ (List.nil_sublist _)))))))))
  replace hH : Hp w w4 _ _ [.blk db 70 [.map (some mb), .bool D.off, arV D.ar ab], .smap mb (kvE es), filsO es, .grp (armO D.ar ab), .row (.slice A6 D.fs.length c7) 9 1 D.fs.length (nmC D.fs), filRs [], .row (.slice none 0 0) 93 3 0 []] := hH
  refine sw_loop (γ := Nat × List (Fil × Value) × Option Addr × Nat) (fun (i, qs, Ao, co) => [(0, Pp db 0), (3, .slice Ao qs.length co), (12, .slice A6 D.fs.length c7), (13, Ni D.fs.length), (14, Ni i)]) (fun (i, qs, Ao, co) w_ => (i ≤ D.fs.length) ∧ (qs.map (·.1) = D.fs.take i) ∧ Hp w w_ (off w (blksOf (ownD db mb ab D es))) (blksOf (ownD db mb ab D es)) [.blk db 70 [.map (some mb), .bool D.off, arV D.ar ab], .smap mb (kvE es), filsO es, .grp (armO D.ar ab), .row (.slice A6 D.fs.length c7) 9 1 D.fs.length (nmC D.fs), filRs qs, .row (.slice Ao qs.length co) 93 3 qs.length (rowC filC qs)]) (fun (i, qs, Ao, co) => D.fs.length - i) (0, [], none, 0) (Sub.of_eq (by kernel_rfl)) ?_ ?_
  · exact ⟨by omega, by simp, hH⟩
  clear hH
  rintro ⟨i, qs, Ao, co⟩ w10 ⟨hi, hqs, hH⟩
  have hql : qs.length = i := by have := congrArg List.length hqs; simp at this; omega
  refine sw_keep [(0, Pp db 0), (3, .slice Ao qs.length co), (12, .slice A6 D.fs.length c7), (13, Ni D.fs.length), (14, Ni i)] (by kernel_rfl) ?_
  refine sw_sr ?_
  refine gl_ops 1 [(0, Pp db 0), (3, .slice Ao qs.length co), (12, .slice A6 D.fs.length c7), (13, Ni D.fs.length), (14, Ni i), (15, .bool (decide (((i : Nat) : Int) < ((D.fs.length : Nat) : Int))))] (by kernel_rfl) ?_
  refine gl_dn rfl ?_
  refine sw_seq ?_
  refine sw_cond rfl rfl (fun hc1 => ?_) (fun hc1 => ?_)
  ·
    try simp only [decide_eq_true_eq] at hc1
    refine sw_skip ?_
    refine sw_next ?_
    refine sw_seq ?_
    refine sw_block ?_
    obtain ⟨f, hf⟩ : ∃ f, D.fs[i]? = some f := ⟨_, List.getElem?_eq_getElem (by omega)⟩
    refine sw_sr ?_
    obtain ⟨b12, hb11, hi13⟩ := hH.row_idx 4 rfl i (by omega)
    refine gl_q rfl rfl rfl (rd_idx (e := 9) (m := 1) (by kernel_rfl) (by kernel_rfl) rfl rfl hi13) ?_
    refine gl_q rfl rfl rfl (rd_loadO 4 (by kernel_rfl) hH rfl rfl hb11 (nmC_at hf)) ?_
    refine gl_ops 1 [(0, Pp db 0), (3, .slice Ao qs.length co), (5, .string (bs f.name)), (12, .slice A6 D.fs.length c7), (13, Ni D.fs.length), (14, Ni i)] (by kernel_rfl) ?_
    refine gl_dn rfl ?_
    obtain ⟨fb, fv, he, hfv, hlt⟩ := pe_at hR hf
    obtain ⟨hbM, hsr, hnm⟩ := good_at hG hR he
    refine sw_sr ?_
    refine gl_ops 3 [(0, Pp db 0), (3, .slice Ao qs.length co), (5, .string (bs f.name)), (12, .slice A6 D.fs.length c7), (13, Ni D.fs.length), (14, Ni i), (20, Pp db 0)] (by kernel_rfl) ?_
    refine gl_q rfl rfl rfl (rd_loadK 0 (by kernel_rfl) hH rfl rfl rfl) ?_
    refine gl_ops 1 [(0, Pp db 0), (3, .slice Ao qs.length co), (5, .string (bs f.name)), (12, .slice A6 D.fs.length c7), (13, Ni D.fs.length), (14, Ni i), (21, .map (some mb)), (22, .string (bs f.name))] (by kernel_rfl) ?_
    refine gl_q rfl rfl rfl (rd_smget (kt := 9) (e := 82) (zv := .pointer none) 1 (by kernel_rfl) (by kernel_rfl) (by kernel_rfl) hH rfl rfl f.name rfl) ?_
    refine gl_cv 23 (Pp fb 0) ((fV_get _ _).trans hfv) rfl ?_
    refine gl_ops 1 [(0, Pp db 0), (3, .slice Ao qs.length co), (5, .string (bs f.name)), (6, Pp fb 0), (12, .slice A6 D.fs.length c7), (13, Ni D.fs.length), (14, Ni i)] (by kernel_rfl) ?_
    refine gl_dn rfl ?_
    obtain ⟨Af, cf, rfl, hf1, hf2⟩ := (fil_rb hH 2 rfl he).row.form
    refine sw_draw (by kernel_rfl) (fun w_ => Hp w w_ (off w (blksOf (ownD db mb ab D es))) (blksOf (ownD db mb ab D es)) [.blk db 70 [.map (some mb), .bool D.off, arV D.ar ab], .smap mb (kvE es), filsO es, .grp (armO D.ar ab), .row (.slice A6 D.fs.length c7) 9 1 D.fs.length (nmC D.fs), filRs qs]) ?_
    replace hH := hH.drew
    generalize { w10 with drawn := w10.drawn + 1 } = w14 at hH ⊢
    have hS9 := hH.sublist (.cons_cons _ (.cons_cons _ (.cons_cons _ (.cons_cons _ (.cons_cons _ (.cons_cons _ (List.nil_sublist _)))))))
    refine gd_pure 0 rfl (by kernel_rfl) (PQ.bk (PQ.th (PQ.th (PQ.bk (PQ.th PQ.body))))) hS9 rfl rfl (.slice Ao qs.length co) (by kernel_rfl) ?_
    refine gd_pure 1 rfl (by kernel_rfl) (PQ.bk (PQ.th (PQ.th (PQ.bk (PQ.th PQ.body))))) hS9 rfl rfl (.string (bs f.name)) (by kernel_rfl) ?_
    refine gd_pure 2 rfl (by kernel_rfl) (PQ.bk (PQ.th (PQ.th (PQ.bk (PQ.th PQ.body))))) hS9 rfl rfl (Pp fb 0) (by kernel_rfl) ?_
    refine gd_keep [(0, Pp db 0), (3, .slice Ao qs.length co), (6, Pp fb 0), (12, .slice A6 D.fs.length c7), (13, Ni D.fs.length), (14, Ni i), (24, .slice Ao qs.length co), (25, .string (bs f.name)), (26, Pp fb 0)] (by kernel_rfl) ?_
    refine gd_pure 3 rfl (by kernel_rfl) (PQ.bk (PQ.th (PQ.th (PQ.bk (PQ.th PQ.body))))) hS9 rfl rfl (Pp fb 0) (by kernel_rfl) ?_
    refine gd_pure 4 rfl (by kernel_rfl) (PQ.bk (PQ.th (PQ.th (PQ.bk (PQ.th PQ.body))))) hS9 rfl rfl (Pp fb 0) (by kernel_rfl) ?_
    refine gd_q 5 rfl (by kernel_rfl) (PQ.bk (PQ.th (PQ.th (PQ.bk (PQ.th PQ.body))))) hS9 rfl rfl (fun w_ hS => (rd_load (by kernel_rfl) rfl (fil_cell0 hS 2 rfl he))) ?_
    refine gd_keep [(0, Pp db 0), (3, .slice Ao qs.length co), (6, Pp fb 0), (12, .slice A6 D.fs.length c7), (13, Ni D.fs.length), (14, Ni i), (24, .slice Ao qs.length co), (25, .string (bs f.name)), (29, .slice Af f.b.length cf)] (by kernel_rfl) ?_
    refine gd_pure 7 rfl (by kernel_rfl) (PQ.bk (PQ.th (PQ.th (PQ.bk (PQ.th PQ.body))))) hS9 rfl rfl (Pp fb 0) (by kernel_rfl) ?_
    refine gd_pure 8 rfl (by kernel_rfl) (PQ.bk (PQ.th (PQ.th (PQ.bk (PQ.th PQ.body))))) hS9 rfl rfl (Pp fb 0) (by kernel_rfl) ?_
    refine gd_pure 9 rfl (by kernel_rfl) (PQ.bk (PQ.th (PQ.th (PQ.bk (PQ.th PQ.body))))) hS9 rfl rfl (Pp fb 1) (by kernel_rfl) ?_
    refine gd_keep [(0, Pp db 0), (3, .slice Ao qs.length co), (12, .slice A6 D.fs.length c7), (13, Ni D.fs.length), (14, Ni i), (24, .slice Ao qs.length co), (25, .string (bs f.name)), (29, .slice Af f.b.length cf), (33, Pp fb 1)] (by kernel_rfl) ?_
    refine gd_q 10 rfl (by kernel_rfl) (PQ.bk (PQ.th (PQ.th (PQ.bk (PQ.th PQ.body))))) hS9 rfl rfl (fun w_ hS => (rd_load (by kernel_rfl) rfl (fil_cell1 hS 2 rfl he))) ?_
    refine gd_st 6 (by kernel_rfl) (st_call rfl rfl rfl (by kernel_rfl) rfl (SClone_ct _ f.b _ (fil_rb hH 2 rfl he) (by omega)) ?_)
    rintro _ w17 ⟨v15, rfl, hF18⟩
    replace hH := hH.call hF18; clear hF18
    obtain ⟨A19, c20, rfl, hl21, hm22⟩ := hH.row_form 7 rfl
    replace hH : Hp w w17 _ _ [.blk db 70 [.map (some mb), .bool D.off, arV D.ar ab], .smap mb (kvE es), filsO es, .grp (armO D.ar ab), .row (.slice A6 D.fs.length c7) 9 1 D.fs.length (nmC D.fs), filRs qs, .row (.slice Ao qs.length co) 93 3 qs.length (rowC filC qs), .row (.slice A19 f.b.length c20) 5 1 f.b.length (bv f.b)] := hH
    replace hS9 := hH.sublist (.cons_cons _ (.cons_cons _ (.cons_cons _ (.cons_cons _ (.cons_cons _ (.cons_cons _ (List.nil_sublist _)))))))
    refine ⟨hS9, ?_⟩
    refine gd_keep [(0, Pp db 0), (3, .slice Ao qs.length co), (12, .slice A6 D.fs.length c7), (13, Ni D.fs.length), (14, Ni i), (24, .slice Ao qs.length co), (25, .string (bs f.name)), (30, .slice A19 f.b.length c20), (34, Ni f.sure)] (by kernel_rfl) ?_
    refine gd_pure 11 rfl (by kernel_rfl) (PQ.bk (PQ.th (PQ.th (PQ.bk (PQ.th PQ.body))))) hS9 rfl rfl (.agg #[.string (bs f.name), .slice A19 f.b.length c20, Ni f.sure]) (by kernel_rfl) ?_
    refine gd_st 12 (by kernel_rfl) (st_buildS (e := 93) (zv := .agg #[.string (bs []), .slice none 0 0, .int .i64 0]) (m := 3) (bytes := 48) rfl rfl rfl (by kernel_rfl) (by kernel_rfl) rfl (cs := [.string (bs f.name), .slice A19 f.b.length c20, Ni f.sure]) (by kernel_rfl) rfl hH ?_)
    clear hH; intro b23 w24 hH
    replace hH : Hp w w24 _ _ [.blk db 70 [.map (some mb), .bool D.off, arV D.ar ab], .smap mb (kvE es), filsO es, .grp (armO D.ar ab), .row (.slice A6 D.fs.length c7) 9 1 D.fs.length (nmC D.fs), filRs qs, .row (.slice Ao qs.length co) 93 3 qs.length (rowC filC qs), .row (.slice A19 f.b.length c20) 5 1 f.b.length (bv f.b), .row (.slice (some ⟨b23, 0, none⟩) 1 1) 93 3 1 [.string (bs f.name), .slice A19 f.b.length c20, Ni f.sure]] := hH
    replace hS9 := hH.sublist (.cons_cons _ (.cons_cons _ (.cons_cons _ (.cons_cons _ (.cons_cons _ (.cons_cons _ (List.nil_sublist _)))))))
    refine ⟨hS9, ?_⟩
    refine gd_keep [(0, Pp db 0), (3, .slice Ao qs.length co), (12, .slice A6 D.fs.length c7), (13, Ni D.fs.length), (14, Ni i), (24, .slice Ao qs.length co), (36, .slice (some ⟨b23, 0, none⟩) 1 1)] (by kernel_rfl) ?_
    refine gd_st 13 (by kernel_rfl) (st_appH (e := 93) (zv := .agg #[.string (bs []), .slice none 0 0, .int .i64 0]) (m := 3) (bytes := 48) 6 rfl rfl rfl (by kernel_rfl) (by kernel_rfl) rfl (by decide) hH rfl rfl rfl (hH.row_reads 8 rfl) (by simp [Value.oneCell']) (by unfold maxLen; omega) (by omega) ?_)
    clear hH; intro v25 w26 hH
    replace hH := hH.row_eq 6 (l' := (qs ++ [(f, (Value.slice A19 f.b.length c20))]).length) (xs' := rowC filC (qs ++ [(f, (Value.slice A19 f.b.length c20))])) rfl (by simp) (filC_snoc qs (f, (Value.slice A19 f.b.length c20)))
    obtain ⟨A27, c28, rfl, hl29, hm30⟩ := hH.row_form 6 rfl
    replace hH : Hp w w26 _ _ [.blk db 70 [.map (some mb), .bool D.off, arV D.ar ab], .smap mb (kvE es), filsO es, .grp (armO D.ar ab), .row (.slice A6 D.fs.length c7) 9 1 D.fs.length (nmC D.fs), filRs qs, .row (.slice A27 ((qs ++ [(f, (Value.slice A19 f.b.length c20))]).length) c28) 93 3 ((qs ++ [(f, (Value.slice A19 f.b.length c20))]).length) (rowC filC (qs ++ [(f, (Value.slice A19 f.b.length c20))])), .row (.slice A19 f.b.length c20) 5 1 f.b.length (bv f.b), .row (.slice (some ⟨b23, 0, none⟩) 1 1) 93 3 1 [.string (bs f.name), .slice A19 f.b.length c20, Ni f.sure]] := hH
    replace hS9 := hH.sublist (.cons_cons _ (.cons_cons _ (.cons_cons _ (.cons_cons _ (.cons_cons _ (.cons_cons _ (List.nil_sublist _)))))))
    refine ⟨hS9, ?_⟩
    refine gd_keep [(0, Pp db 0), (3, .slice Ao qs.length co), (12, .slice A6 D.fs.length c7), (13, Ni D.fs.length), (14, Ni i), (37, .slice A27 ((qs ++ [(f, (Value.slice A19 f.b.length c20))]).length) c28)] (by kernel_rfl) ?_
    refine gd_pure 14 rfl (by kernel_rfl) (PQ.bk (PQ.th (PQ.th (PQ.bk (PQ.th PQ.body))))) hS9 rfl rfl (.slice A27 ((qs ++ [(f, (Value.slice A19 f.b.length c20))]).length) c28) (by kernel_rfl) ?_
    refine gd_done (by kernel_rfl) ?_
    refine at_sub [(0, Pp db 0), (3, .slice A27 ((qs ++ [(f, (Value.slice A19 f.b.length c20))]).length) c28), (12, .slice A6 D.fs.length c7), (13, Ni D.fs.length), (14, Ni i)] (Sub.of_eq (by kernel_rfl)) ?_
    refine bkN ?_
    refine sw_next ?_
    refine sw_region ?_
    refine gl_ops 1 [(0, Pp db 0), (3, .slice A27 ((qs ++ [(f, (Value.slice A19 f.b.length c20))]).length) c28), (12, .slice A6 D.fs.length c7), (13, Ni D.fs.length), (38, .int .i64 (IntKind.i64.wrap (((i : Nat) : Int) + 1)))] (by kernel_rfl) ?_
    refine gl_cv 38 (Ni (i + 1)) (cv_i64 (by omega)) rfl ?_
    refine gl_ops 1 [(0, Pp db 0), (3, .slice A27 ((qs ++ [(f, (Value.slice A19 f.b.length c20))]).length) c28), (12, .slice A6 D.fs.length c7), (13, Ni D.fs.length), (14, Ni (i + 1))] (by kernel_rfl) ?_
    refine gl_done rfl ?_
    refine rnd_end (g := (i, qs, Ao, co)) (i + 1, qs ++ [(f, (Value.slice A19 f.b.length c20))], A27, c28) (by kernel_rfl) ?_ ?_
    replace hH := hH.pick [5, 7, 0, 1, 2, 3, 4, 6, 8] (by kernel_rfl) (os' := [filRs qs, .row (.slice A19 f.b.length c20) 5 1 f.b.length (bv f.b), .blk db 70 [.map (some mb), .bool D.off, arV D.ar ab], .smap mb (kvE es), filsO es, .grp (armO D.ar ab), .row (.slice A6 D.fs.length c7) 9 1 D.fs.length (nmC D.fs), .row (.slice A27 ((qs ++ [(f, (Value.slice A19 f.b.length c20))]).length) c28) 93 3 ((qs ++ [(f, (Value.slice A19 f.b.length c20))]).length) (rowC filC (qs ++ [(f, (Value.slice A19 f.b.length c20))])), .row (.slice (some ⟨b23, 0, none⟩) 1 1) 93 3 1 [.string (bs f.name), .slice A19 f.b.length c20, Ni f.sure]]) (by kernel_rfl)
    replace hH := hH.merge
    replace hH := hH.cast (os' := [filRs (qs ++ [(f, (Value.slice A19 f.b.length c20))]), .blk db 70 [.map (some mb), .bool D.off, arV D.ar ab], .smap mb (kvE es), filsO es, .grp (armO D.ar ab), .row (.slice A6 D.fs.length c7) 9 1 D.fs.length (nmC D.fs), .row (.slice A27 ((qs ++ [(f, (Value.slice A19 f.b.length c20))]).length) c28) 93 3 ((qs ++ [(f, (Value.slice A19 f.b.length c20))]).length) (rowC filC (qs ++ [(f, (Value.slice A19 f.b.length c20))])), .row (.slice (some ⟨b23, 0, none⟩) 1 1) 93 3 1 [.string (bs f.name), .slice A19 f.b.length c20, Ni f.sure]]) (by simp [filRs, filR])
    replace hH := hH.pick [1, 2, 3, 4, 5, 0, 6, 7] (by kernel_rfl) (os' := [.blk db 70 [.map (some mb), .bool D.off, arV D.ar ab], .smap mb (kvE es), filsO es, .grp (armO D.ar ab), .row (.slice A6 D.fs.length c7) 9 1 D.fs.length (nmC D.fs), filRs (qs ++ [(f, (Value.slice A19 f.b.length c20))]), .row (.slice A27 ((qs ++ [(f, (Value.slice A19 f.b.length c20))]).length) c28) 93 3 ((qs ++ [(f, (Value.slice A19 f.b.length c20))]).length) (rowC filC (qs ++ [(f, (Value.slice A19 f.b.length c20))])), .row (.slice (some ⟨b23, 0, none⟩) 1 1) 93 3 1 [.string (bs f.name), .slice A19 f.b.length c20, Ni f.sure]]) (by kernel_rfl)
    replace hH := (hH.sublist (.cons_cons _ (.cons_cons _ (.cons_cons _ (.cons_cons _ (.cons_cons _ (.cons_cons _ (.cons_cons _ (List.nil_sublist _)))))))))
    replace hH : Hp w w26 _ _ [.blk db 70 [.map (some mb), .bool D.off, arV D.ar ab], .smap mb (kvE es), filsO es, .grp (armO D.ar ab), .row (.slice A6 D.fs.length c7) 9 1 D.fs.length (nmC D.fs), filRs (qs ++ [(f, (Value.slice A19 f.b.length c20))]), .row (.slice A27 ((qs ++ [(f, (Value.slice A19 f.b.length c20))]).length) c28) 93 3 ((qs ++ [(f, (Value.slice A19 f.b.length c20))]).length) (rowC filC (qs ++ [(f, (Value.slice A19 f.b.length c20))]))] := hH
    · exact ⟨by omega, by rw [List.map_append, hqs, List.map_singleton, take_next hf], hH⟩
    · show D.fs.length - (i + 1) < D.fs.length - i; omega
  try simp only [decide_eq_false_iff_not, Int.not_lt, Int.not_le] at hc1
  refine sw_exit ?_
  refine thX ?_
  refine thX ?_
  refine bkH ?_
  refine sw_next ?_
  refine sw_sr ?_
  refine gl_ops 2 [(2, .slice Ao qs.length co)] (by kernel_rfl) ?_
  refine gl_dn rfl ?_
  refine sw_ret ?_
  refine ret1 rfl rfl  ?_
  replace hH := hH.pick [0, 1, 2, 3, 6, 5, 4] (by kernel_rfl) (os' := [.blk db 70 [.map (some mb), .bool D.off, arV D.ar ab], .smap mb (kvE es), filsO es, .grp (armO D.ar ab), .row (.slice Ao qs.length co) 93 3 qs.length (rowC filC qs), filRs qs, .row (.slice A6 D.fs.length c7) 9 1 D.fs.length (nmC D.fs)]) (by kernel_rfl)
  replace hH := (hH.sublist (.cons_cons _ (.cons_cons _ (.cons_cons _ (.cons_cons _ (.cons_cons _ (.cons_cons _ (List.nil_sublist _))))))))
  replace hH : Hp w w10 _ _ [.blk db 70 [.map (some mb), .bool D.off, arV D.ar ab], .smap mb (kvE es), filsO es, .grp (armO D.ar ab), .row (.slice Ao qs.length co) 93 3 qs.length (rowC filC qs), filRs qs] := hH
  replace hH : Hp w w10 _ _ (dskO db mb ab D es ++ [.row (.slice Ao qs.length co) 93 3 qs.length (rowC filC qs), filRs qs]) := hH
  exact ⟨_, qs, rfl, by rw [hqs, List.take_of_length_le (by omega)], hH.close.turned⟩
theorem Start_ct (db mb ab : Nat) (D : Dsk) (es : List PE) (vk : Value) (ks : List Int) (M : Nat) (w : World) (hM : Mine w (ownD db mb ab D es)) (hk : Row (off w (blksOf (ownD db mb ab D es))) vk 1 ks.length (iv ks)) (hR : Rep es D.fs) (hG : Good D.fs M) (hMM : M ≤ 140737488355328) (hN : D.fs.length ≤ 1000000) :
    Fun Tryz.prog 9 [.pointer (some ⟨db, 0, none⟩), vk] w fun v w' => ∃ es', v = .tuple #[] ∧ Rep es' (startD D ks).fs ∧ Turn w w' (ownD db mb ab D es) [.grp (dskO db mb ab (startD D ks) es')] := by
  obtain ⟨Ak, ck, rfl, hk1, hk2⟩ := hk.form
  refine fun_of_sw Tryz.func9 rfl 75 rfl rfl ?_
  have hH : Hp w w (off w (blksOf (ownD db mb ab D es))) (blksOf (ownD db mb ab D es)) (dskO db mb ab D es ++ []) := (Hp.start_mine hM).open_
  replace hH : Hp w w _ _ [.blk db 70 [.map (some mb), .bool D.off, arV D.ar ab], .smap mb (kvE es), filsO es, .grp (armO D.ar ab)] := hH
  refine sw_seq ?_
  refine sw_sr ?_
  refine gl_ops 3 [(0, Pp db 0), (1, .slice Ak ks.length ck), (9, Pp db 0)] (by kernel_rfl) ?_
  refine gl_q rfl rfl rfl (rd_loadK 0 (by kernel_rfl) hH rfl rfl rfl) ?_
  refine gl_st (st_call rfl rfl rfl (by kernel_rfl) rfl (MapsKeys_ct mb _) ?_)
  rintro _ w2 ⟨kb1, rfl, hF3⟩
  replace hH := hH.call hF3; clear hF3
  refine gl_st (st_call rfl rfl rfl (by kernel_rfl) rfl (SortedKeys_ct kb1 mb _ _ (hH.blk_cell 4 rfl rfl) (hH.own _ (List.mem_of_getElem? (i := 1) rfl)) (skeys_le hR hG) (by rw [kvE_len hR]; omega)) ?_)
  rintro _ w4 ⟨ss, kv, rfl, hperm, hF5⟩
  replace hH := hH.call hF5; clear hF5
  obtain ⟨hs1, hs2⟩ := keys_row hR hperm
  rw [hs1, hs2] at hH
  obtain ⟨A6, c7, rfl, hl8, hm9⟩ := hH.row_form 5 rfl
  refine gl_q rfl rfl rfl (rd_len (e := 9) (by kernel_rfl) rfl) ?_
  refine gl_ops 1 [(0, Pp db 0), (1, .slice Ak ks.length ck), (12, .slice A6 D.fs.length c7), (13, Ni D.fs.length), (14, .int .i64 0)] (by kernel_rfl) ?_
  refine gl_dn rfl ?_
  refine sw_block ?_
  replace hH := hH.pick [0, 1, 2, 3, 5, 4] (by kernel_rfl) (os' := [.blk db 70 [.map (some mb), .bool D.off, arV D.ar ab], .smap mb (kvE es), filsO es, .grp (armO D.ar ab), .row (.slice A6 D.fs.length c7) 9 1 D.fs.length (nmC D.fs), .blk kb1 67 [.map (some mb)]]) (by kernel_rfl)
  replace hH := (hH.sublist (.cons_cons _ (.cons_cons _ (.cons_cons _ (.cons_cons _ (.cons_cons _ (List.nil_sublist _)))))))
  replace hH : Hp w w4 _ _ [.blk db 70 [.map (some mb), .bool D.off, arV D.ar ab], .smap mb (kvE es), filsO es, .grp (armO D.ar ab), .row (.slice A6 D.fs.length c7) 9 1 D.fs.length (nmC D.fs)] := hH
  refine sw_loop (γ := Nat × List PE) (fun (i, es2) => [(0, Pp db 0), (1, .slice Ak ks.length ck), (12, .slice A6 D.fs.length c7), (13, Ni D.fs.length), (14, Ni i)]) (fun (i, es2) w_ => (i ≤ D.fs.length) ∧ (Rep es2 (partF D.fs ks i)) ∧ Hp w w_ (off w (blksOf (ownD db mb ab D es))) (blksOf (ownD db mb ab D es)) [.blk db 70 [.map (some mb), .bool D.off, arV D.ar ab], .smap mb (kvE es2), filsO es2, .grp (armO D.ar ab), .row (.slice A6 D.fs.length c7) 9 1 D.fs.length (nmC D.fs)]) (fun (i, es2) => D.fs.length - i) (0, es) (Sub.of_eq (by kernel_rfl)) ?_ ?_
  · exact ⟨by omega, by rw [partF_zero]; exact hR, hH⟩
  clear hH
  rintro ⟨i, es2⟩ w10 ⟨hi, hR2, hH⟩
  refine sw_keep [(0, Pp db 0), (1, .slice Ak ks.length ck), (12, .slice A6 D.fs.length c7), (13, Ni D.fs.length), (14, Ni i)] (by kernel_rfl) ?_
  refine sw_sr ?_
  refine gl_ops 1 [(0, Pp db 0), (1, .slice Ak ks.length ck), (12, .slice A6 D.fs.length c7), (13, Ni D.fs.length), (14, Ni i), (15, .bool (decide (((i : Nat) : Int) < ((D.fs.length : Nat) : Int))))] (by kernel_rfl) ?_
  refine gl_dn rfl ?_
  refine sw_seq ?_
  refine sw_cond rfl rfl (fun hc1 => ?_) (fun hc1 => ?_)
  ·
    try simp only [decide_eq_true_eq] at hc1
    refine sw_skip ?_
    refine sw_next ?_
    refine sw_seq ?_
    refine sw_block ?_
    obtain ⟨f, hf⟩ : ∃ f, D.fs[i]? = some f := ⟨_, List.getElem?_eq_getElem (by omega)⟩
    have hbM := hG.short f (List.mem_of_getElem? hf)
    have hsr := hG.sure f (List.mem_of_getElem? hf)
    have hmod := modI_lt (ks.getD i 0) (show 0 < f.b.length - f.sure + 1 by omega)
    refine sw_sr ?_
    obtain ⟨b12, hb11, hi13⟩ := hH.row_idx 4 rfl i (by omega)
    refine gl_ops 1 [(0, Pp db 0), (1, .slice Ak ks.length ck), (12, .slice A6 D.fs.length c7), (13, Ni D.fs.length), (14, Ni i), (16, Ni i)] (by kernel_rfl) ?_
    refine gl_q rfl rfl rfl (rd_idx (e := 9) (m := 1) (by kernel_rfl) (by kernel_rfl) rfl rfl hi13) ?_
    refine gl_q rfl rfl rfl (rd_loadO 4 (by kernel_rfl) hH rfl rfl hb11 (nmC_at hf)) ?_
    refine gl_ops 2 [(0, Pp db 0), (1, .slice Ak ks.length ck), (4, Ni i), (5, .string (bs f.name)), (12, .slice A6 D.fs.length c7), (13, Ni D.fs.length), (14, Ni i)] (by kernel_rfl) ?_
    refine gl_dn rfl ?_
    obtain ⟨fb, fv, he, hfv, hlt⟩ := pe_at hR2 (partF_at hf)
    refine sw_sr ?_
    refine gl_ops 3 [(0, Pp db 0), (1, .slice Ak ks.length ck), (4, Ni i), (5, .string (bs f.name)), (12, .slice A6 D.fs.length c7), (13, Ni D.fs.length), (14, Ni i), (21, Pp db 0)] (by kernel_rfl) ?_
    refine gl_q rfl rfl rfl (rd_loadK 0 (by kernel_rfl) hH rfl rfl rfl) ?_
    refine gl_ops 1 [(0, Pp db 0), (1, .slice Ak ks.length ck), (4, Ni i), (12, .slice A6 D.fs.length c7), (13, Ni D.fs.length), (14, Ni i), (22, .map (some mb)), (23, .string (bs f.name))] (by kernel_rfl) ?_
    refine gl_q rfl rfl rfl (rd_smget (kt := 9) (e := 82) (zv := .pointer none) 1 (by kernel_rfl) (by kernel_rfl) (by kernel_rfl) hH rfl rfl f.name rfl) ?_
    refine gl_cv 24 (Pp fb 0) ((fV_get _ _).trans hfv) rfl ?_
    refine gl_ops 1 [(0, Pp db 0), (1, .slice Ak ks.length ck), (4, Ni i), (6, Pp fb 0), (12, .slice A6 D.fs.length c7), (13, Ni D.fs.length), (14, Ni i)] (by kernel_rfl) ?_
    refine gl_dn rfl ?_
    replace hH := hH.pick [2, 0, 1, 3, 4] (by kernel_rfl) (os' := [filsO es2, .blk db 70 [.map (some mb), .bool D.off, arV D.ar ab], .smap mb (kvE es2), .grp (armO D.ar ab), .row (.slice A6 D.fs.length c7) 9 1 D.fs.length (nmC D.fs)]) (by kernel_rfl)
    replace hH := fil_out he hH
    replace hH : Hp w w10 _ _ [.blk fb 84 [fv, Ni f.sure], .vw fv 5 f.b, restO es2 (ixE es2 f.name), .blk db 70 [.map (some mb), .bool D.off, arV D.ar ab], .smap mb (kvE es2), .grp (armO D.ar ab), .row (.slice A6 D.fs.length c7) 9 1 D.fs.length (nmC D.fs)] := hH
    obtain ⟨Af, cf, hv, hv1, hv2⟩ := hH.vw_form 1 rfl
    subst hv
    refine sw_cut (γ := Nat) (fun s1 => [(0, Pp db 0), (1, .slice Ak ks.length ck), (6, Pp fb 0), (12, .slice A6 D.fs.length c7), (13, Ni D.fs.length), (14, Ni i)]) (fun s1 w_ => (s1 = startS f i ks) ∧ Hp w w_ (off w (blksOf (ownD db mb ab D es))) (blksOf (ownD db mb ab D es)) [.blk fb 84 [.slice Af f.b.length cf, Ni s1], .vw (.slice Af f.b.length cf) 5 f.b, restO es2 (ixE es2 f.name), .blk db 70 [.map (some mb), .bool D.off, arV D.ar ab], .smap mb (kvE es2), .grp (armO D.ar ab), .row (.slice A6 D.fs.length c7) 9 1 D.fs.length (nmC D.fs)]) ?_ ?_
    ·
      refine sw_sr ?_
      refine gl_ops 2 [(0, Pp db 0), (1, .slice Ak ks.length ck), (4, Ni i), (6, Pp fb 0), (12, .slice A6 D.fs.length c7), (13, Ni D.fs.length), (14, Ni i), (25, Ni i), (26, .slice Ak ks.length ck)] (by kernel_rfl) ?_
      refine gl_q rfl rfl rfl (rd_len (e := 3) (by kernel_rfl) rfl) ?_
      refine gl_ops 1 [(0, Pp db 0), (1, .slice Ak ks.length ck), (4, Ni i), (6, Pp fb 0), (12, .slice A6 D.fs.length c7), (13, Ni D.fs.length), (14, Ni i), (28, .bool (decide (((i : Nat) : Int) < ((ks.length : Nat) : Int))))] (by kernel_rfl) ?_
      refine gl_dn rfl ?_
      refine sw_cond rfl rfl (fun hc2 => ?_) (fun hc2 => ?_)
      ·
        try simp only [decide_eq_true_eq] at hc2
        refine sw_draw (by kernel_rfl) (fun w_ => Hp w w_ (off w (blksOf (ownD db mb ab D es))) (blksOf (ownD db mb ab D es)) [.vw (.slice Af f.b.length cf) 5 f.b, restO es2 (ixE es2 f.name), .blk db 70 [.map (some mb), .bool D.off, arV D.ar ab], .smap mb (kvE es2), .grp (armO D.ar ab), .row (.slice A6 D.fs.length c7) 9 1 D.fs.length (nmC D.fs)]) ?_
        replace hH := hH.drew
        generalize { w10 with drawn := w10.drawn + 1 } = w14 at hH ⊢
        have hS9 := hH.sublist (.cons _ (.cons_cons _ (.cons_cons _ (.cons_cons _ (.cons_cons _ (.cons_cons _ (.cons_cons _ (List.nil_sublist _))))))))
        refine gd_pure 0 rfl (by kernel_rfl) (PQ.th (PQ.bk (PQ.th (PQ.th (PQ.bk (PQ.th PQ.body)))))) hS9 rfl rfl (Pp fb 0) (by kernel_rfl) ?_
        refine gd_pure 1 rfl (by kernel_rfl) (PQ.th (PQ.bk (PQ.th (PQ.th (PQ.bk (PQ.th PQ.body)))))) hS9 rfl rfl (Pp fb 0) (by kernel_rfl) ?_
        refine gd_pure 2 rfl (by kernel_rfl) (PQ.th (PQ.bk (PQ.th (PQ.th (PQ.bk (PQ.th PQ.body)))))) hS9 rfl rfl (Pp fb 1) (by kernel_rfl) ?_
        refine gd_keep [(0, Pp db 0), (1, .slice Ak ks.length ck), (4, Ni i), (6, Pp fb 0), (12, .slice A6 D.fs.length c7), (13, Ni D.fs.length), (14, Ni i), (29, Pp fb 0), (31, Pp fb 1)] (by kernel_rfl) ?_
        refine gd_pure 4 rfl (by kernel_rfl) (PQ.th (PQ.bk (PQ.th (PQ.th (PQ.bk (PQ.th PQ.body)))))) hS9 rfl rfl (.slice Ak ks.length ck) (by kernel_rfl) ?_
        refine gd_pure 5 rfl (by kernel_rfl) (PQ.th (PQ.bk (PQ.th (PQ.th (PQ.bk (PQ.th PQ.body)))))) hS9 rfl rfl (Ni i) (by kernel_rfl) ?_
        obtain ⟨p15, hi17, hp16⟩ := hk.idx i (by omega) (by decide)
        refine gd_q 6 rfl (by kernel_rfl) (PQ.th (PQ.bk (PQ.th (PQ.th (PQ.bk (PQ.th PQ.body)))))) hS9 rfl rfl (fun w_ hS => (rd_idx (e := 3) (m := 1) (by kernel_rfl) (by kernel_rfl) rfl rfl hi17)) ?_
        refine gd_keep [(0, Pp db 0), (1, .slice Ak ks.length ck), (6, Pp fb 0), (12, .slice A6 D.fs.length c7), (13, Ni D.fs.length), (14, Ni i), (29, Pp fb 0), (31, Pp fb 1), (35, .pointer (some p15))] (by kernel_rfl) ?_
        refine gd_q 7 rfl (by kernel_rfl) (PQ.th (PQ.bk (PQ.th (PQ.th (PQ.bk (PQ.th PQ.body)))))) hS9 rfl rfl (fun w_ hS => (rd_load (by kernel_rfl) rfl (hS.zin _ _ (hp16 0 _ (by decide) (iv_at ks i (by omega)))))) ?_
        refine gd_pure 8 rfl (by kernel_rfl) (PQ.th (PQ.bk (PQ.th (PQ.th (PQ.bk (PQ.th PQ.body)))))) hS9 rfl rfl (Pp fb 0) (by kernel_rfl) ?_
        refine gd_pure 9 rfl (by kernel_rfl) (PQ.th (PQ.bk (PQ.th (PQ.th (PQ.bk (PQ.th PQ.body)))))) hS9 rfl rfl (Pp fb 0) (by kernel_rfl) ?_
        refine gd_keep [(0, Pp db 0), (1, .slice Ak ks.length ck), (6, Pp fb 0), (12, .slice A6 D.fs.length c7), (13, Ni D.fs.length), (14, Ni i), (29, Pp fb 0), (31, Pp fb 1), (36, .int .i64 (ks.getD i 0)), (38, Pp fb 0)] (by kernel_rfl) ?_
        refine gd_pure 10 rfl (by kernel_rfl) (PQ.th (PQ.bk (PQ.th (PQ.th (PQ.bk (PQ.th PQ.body)))))) hS9 rfl rfl (Pp fb 0) (by kernel_rfl) ?_
        refine gd_pure 13 rfl (by kernel_rfl) (PQ.th (PQ.bk (PQ.th (PQ.th (PQ.bk (PQ.th PQ.body)))))) hS9 rfl rfl (Pp fb 0) (by kernel_rfl) ?_
        refine gd_pure 14 rfl (by kernel_rfl) (PQ.th (PQ.bk (PQ.th (PQ.th (PQ.bk (PQ.th PQ.body)))))) hS9 rfl rfl (Pp fb 0) (by kernel_rfl) ?_
        refine gd_keep [(0, Pp db 0), (1, .slice Ak ks.length ck), (6, Pp fb 0), (12, .slice A6 D.fs.length c7), (13, Ni D.fs.length), (14, Ni i), (29, Pp fb 0), (31, Pp fb 1), (36, .int .i64 (ks.getD i 0)), (39, Pp fb 0), (43, Pp fb 0)] (by kernel_rfl) ?_
        refine gd_pure 15 rfl (by kernel_rfl) (PQ.th (PQ.bk (PQ.th (PQ.th (PQ.bk (PQ.th PQ.body)))))) hS9 rfl rfl (Pp fb 1) (by kernel_rfl) ?_
        refine gd_st3 3 11 16 (by kernel_rfl) ?_ ?_ ?_
        ·
          refine st_q rfl rfl rfl (rd_loadK 0 (by kernel_rfl) hH rfl rfl rfl) ?_
          refine ⟨hS9, ?_⟩
          refine gd_keep [(0, Pp db 0), (1, .slice Ak ks.length ck), (6, Pp fb 0), (12, .slice A6 D.fs.length c7), (13, Ni D.fs.length), (14, Ni i), (29, Pp fb 0), (32, Ni f.sure), (36, .int .i64 (ks.getD i 0)), (39, Pp fb 0), (44, Pp fb 1)] (by kernel_rfl) ?_
          refine gd_st2 11 16 (by kernel_rfl) ?_ ?_
          ·
            refine st_q rfl rfl rfl (rd_loadK 0 (by kernel_rfl) hH rfl rfl rfl) ?_
            refine ⟨hS9, ?_⟩
            refine gd_keep [(0, Pp db 0), (1, .slice Ak ks.length ck), (6, Pp fb 0), (12, .slice A6 D.fs.length c7), (13, Ni D.fs.length), (14, Ni i), (29, Pp fb 0), (32, Ni f.sure), (36, .int .i64 (ks.getD i 0)), (40, .slice Af f.b.length cf), (44, Pp fb 1)] (by kernel_rfl) ?_
            refine gd_q 12 rfl (by kernel_rfl) (PQ.th (PQ.bk (PQ.th (PQ.th (PQ.bk (PQ.th PQ.body)))))) hS9 rfl rfl (fun w_ hS => (rd_len (e := 5) (by kernel_rfl) rfl)) ?_
            refine gd_st 16 (by kernel_rfl) (st_q rfl rfl rfl (rd_loadK 0 (by kernel_rfl) hH rfl rfl rfl) ?_)
            refine ⟨hS9, ?_⟩
            refine gd_keep [(0, Pp db 0), (1, .slice Ak ks.length ck), (6, Pp fb 0), (12, .slice A6 D.fs.length c7), (13, Ni D.fs.length), (14, Ni i), (29, Pp fb 0), (32, Ni f.sure), (36, .int .i64 (ks.getD i 0)), (41, Ni f.b.length), (45, Ni f.sure)] (by kernel_rfl) ?_
            refine gd_pure 17 rfl (by kernel_rfl) (PQ.th (PQ.bk (PQ.th (PQ.th (PQ.bk (PQ.th PQ.body)))))) hS9 rfl rfl (.int .i64 (IntKind.i64.wrap (((f.b.length : Nat) : Int) - ((f.sure : Nat) : Int)))) (by kernel_rfl) ?_
            refine gd_cv 46 (Ni (f.b.length - f.sure)) (cv_i64 (by omega)) rfl ?_
            refine gd_pure 18 rfl (by kernel_rfl) (PQ.th (PQ.bk (PQ.th (PQ.th (PQ.bk (PQ.th PQ.body)))))) hS9 rfl rfl (.int .i64 (IntKind.i64.wrap (((f.b.length - f.sure : Nat) : Int) + 1))) (by kernel_rfl) ?_
            refine gd_cv 47 (Ni ((f.b.length - f.sure) + 1)) (cv_i64 (by omega)) rfl ?_
            refine gd_st 19 (by kernel_rfl) (st_call rfl rfl rfl (by kernel_rfl) rfl (Modulo_ct (ks.getD i 0) ((f.b.length - f.sure) + 1) _ (by omega) (by omega)) ?_)
            rintro _ w18 ⟨rfl, hF19⟩
            replace hH := hH.call hF19; clear hF19
            replace hH : Hp w w18 _ _ [.blk fb 84 [.slice Af f.b.length cf, Ni f.sure], .vw (.slice Af f.b.length cf) 5 f.b, restO es2 (ixE es2 f.name), .blk db 70 [.map (some mb), .bool D.off, arV D.ar ab], .smap mb (kvE es2), .grp (armO D.ar ab), .row (.slice A6 D.fs.length c7) 9 1 D.fs.length (nmC D.fs)] := hH
            replace hS9 := hH.sublist (.cons _ (.cons_cons _ (.cons_cons _ (.cons_cons _ (.cons_cons _ (.cons_cons _ (.cons_cons _ (List.nil_sublist _))))))))
            refine ⟨hS9, ?_⟩
            refine gd_keep [(0, Pp db 0), (1, .slice Ak ks.length ck), (6, Pp fb 0), (12, .slice A6 D.fs.length c7), (13, Ni D.fs.length), (14, Ni i), (29, Pp fb 0), (32, Ni f.sure), (48, Ni (modI (ks.getD i 0) ((f.b.length - f.sure) + 1)))] (by kernel_rfl) ?_
            refine gd_pure 20 rfl (by kernel_rfl) (PQ.th (PQ.bk (PQ.th (PQ.th (PQ.bk (PQ.th PQ.body)))))) hS9 rfl rfl (.int .i64 (IntKind.i64.wrap (((f.sure : Nat) : Int) + ((modI (ks.getD i 0) ((f.b.length - f.sure) + 1) : Nat) : Int)))) (by kernel_rfl) ?_
            refine gd_cv 49 (Ni (f.sure + (modI (ks.getD i 0) ((f.b.length - f.sure) + 1)))) (cv_i64 (by omega)) rfl ?_
            refine gd_pure 21 rfl (by kernel_rfl) (PQ.th (PQ.bk (PQ.th (PQ.th (PQ.bk (PQ.th PQ.body)))))) hS9 rfl rfl (Pp fb 0) (by kernel_rfl) ?_
            refine gd_pure 22 rfl (by kernel_rfl) (PQ.th (PQ.bk (PQ.th (PQ.th (PQ.bk (PQ.th PQ.body)))))) hS9 rfl rfl (Pp fb 1) (by kernel_rfl) ?_
            refine gd_keep [(0, Pp db 0), (1, .slice Ak ks.length ck), (6, Pp fb 0), (12, .slice A6 D.fs.length c7), (13, Ni D.fs.length), (14, Ni i), (49, Ni (f.sure + (modI (ks.getD i 0) ((f.b.length - f.sure) + 1)))), (51, Pp fb 1)] (by kernel_rfl) ?_
            refine gd_st 23 (by kernel_rfl) (st_storeK (v := Ni (f.sure + (modI (ks.getD i 0) ((f.b.length - f.sure) + 1)))) 0 rfl rfl rfl hH rfl rfl rfl (by kernel_rfl) rfl (by simp) ?_)
            clear hH; intro w20 hH
            replace hH : Hp w w20 _ _ [.blk fb 84 [.slice Af f.b.length cf, Ni (f.sure + (modI (ks.getD i 0) ((f.b.length - f.sure) + 1)))], .vw (.slice Af f.b.length cf) 5 f.b, restO es2 (ixE es2 f.name), .blk db 70 [.map (some mb), .bool D.off, arV D.ar ab], .smap mb (kvE es2), .grp (armO D.ar ab), .row (.slice A6 D.fs.length c7) 9 1 D.fs.length (nmC D.fs)] := hH
            replace hS9 := hH.sublist (.cons _ (.cons_cons _ (.cons_cons _ (.cons_cons _ (.cons_cons _ (.cons_cons _ (.cons_cons _ (List.nil_sublist _))))))))
            refine ⟨hS9, ?_⟩
            refine gd_keep [(0, Pp db 0), (1, .slice Ak ks.length ck), (6, Pp fb 0), (12, .slice A6 D.fs.length c7), (13, Ni D.fs.length), (14, Ni i)] (by kernel_rfl) ?_
            refine gd_done (by kernel_rfl) ?_
            refine at_sub [(0, Pp db 0), (1, .slice Ak ks.length ck), (6, Pp fb 0), (12, .slice A6 D.fs.length c7), (13, Ni D.fs.length), (14, Ni i)] (Sub.of_eq (by kernel_rfl)) ?_
            refine cut_end (f.sure + (modI (ks.getD i 0) ((f.b.length - f.sure) + 1))) (Sub.of_eq (by kernel_rfl)) ?_
            exact ⟨by unfold startS; rw [if_pos (by omega)], hH⟩
          ·
            refine st_q rfl rfl rfl (rd_loadK 0 (by kernel_rfl) hH rfl rfl rfl) ?_
            refine ⟨hS9, ?_⟩
            refine gd_keep [(0, Pp db 0), (1, .slice Ak ks.length ck), (6, Pp fb 0), (12, .slice A6 D.fs.length c7), (13, Ni D.fs.length), (14, Ni i), (29, Pp fb 0), (32, Ni f.sure), (36, .int .i64 (ks.getD i 0)), (39, Pp fb 0), (45, Ni f.sure)] (by kernel_rfl) ?_
            refine gd_st 11 (by kernel_rfl) (st_q rfl rfl rfl (rd_loadK 0 (by kernel_rfl) hH rfl rfl rfl) ?_)
            refine ⟨hS9, ?_⟩
            refine gd_keep [(0, Pp db 0), (1, .slice Ak ks.length ck), (6, Pp fb 0), (12, .slice A6 D.fs.length c7), (13, Ni D.fs.length), (14, Ni i), (29, Pp fb 0), (32, Ni f.sure), (36, .int .i64 (ks.getD i 0)), (40, .slice Af f.b.length cf), (45, Ni f.sure)] (by kernel_rfl) ?_
            refine gd_q 12 rfl (by kernel_rfl) (PQ.th (PQ.bk (PQ.th (PQ.th (PQ.bk (PQ.th PQ.body)))))) hS9 rfl rfl (fun w_ hS => (rd_len (e := 5) (by kernel_rfl) rfl)) ?_
            refine gd_pure 17 rfl (by kernel_rfl) (PQ.th (PQ.bk (PQ.th (PQ.th (PQ.bk (PQ.th PQ.body)))))) hS9 rfl rfl (.int .i64 (IntKind.i64.wrap (((f.b.length : Nat) : Int) - ((f.sure : Nat) : Int)))) (by kernel_rfl) ?_
            refine gd_cv 46 (Ni (f.b.length - f.sure)) (cv_i64 (by omega)) rfl ?_
            refine gd_pure 18 rfl (by kernel_rfl) (PQ.th (PQ.bk (PQ.th (PQ.th (PQ.bk (PQ.th PQ.body)))))) hS9 rfl rfl (.int .i64 (IntKind.i64.wrap (((f.b.length - f.sure : Nat) : Int) + 1))) (by kernel_rfl) ?_
            refine gd_cv 47 (Ni ((f.b.length - f.sure) + 1)) (cv_i64 (by omega)) rfl ?_
            refine gd_keep [(0, Pp db 0), (1, .slice Ak ks.length ck), (6, Pp fb 0), (12, .slice A6 D.fs.length c7), (13, Ni D.fs.length), (14, Ni i), (29, Pp fb 0), (32, Ni f.sure), (36, .int .i64 (ks.getD i 0)), (47, Ni ((f.b.length - f.sure) + 1))] (by kernel_rfl) ?_
            refine gd_st 19 (by kernel_rfl) (st_call rfl rfl rfl (by kernel_rfl) rfl (Modulo_ct (ks.getD i 0) ((f.b.length - f.sure) + 1) _ (by omega) (by omega)) ?_)
            rintro _ w21 ⟨rfl, hF22⟩
            replace hH := hH.call hF22; clear hF22
            replace hH : Hp w w21 _ _ [.blk fb 84 [.slice Af f.b.length cf, Ni f.sure], .vw (.slice Af f.b.length cf) 5 f.b, restO es2 (ixE es2 f.name), .blk db 70 [.map (some mb), .bool D.off, arV D.ar ab], .smap mb (kvE es2), .grp (armO D.ar ab), .row (.slice A6 D.fs.length c7) 9 1 D.fs.length (nmC D.fs)] := hH
            replace hS9 := hH.sublist (.cons _ (.cons_cons _ (.cons_cons _ (.cons_cons _ (.cons_cons _ (.cons_cons _ (.cons_cons _ (List.nil_sublist _))))))))
            refine ⟨hS9, ?_⟩
            refine gd_keep [(0, Pp db 0), (1, .slice Ak ks.length ck), (6, Pp fb 0), (12, .slice A6 D.fs.length c7), (13, Ni D.fs.length), (14, Ni i), (29, Pp fb 0), (32, Ni f.sure), (48, Ni (modI (ks.getD i 0) ((f.b.length - f.sure) + 1)))] (by kernel_rfl) ?_
            refine gd_pure 20 rfl (by kernel_rfl) (PQ.th (PQ.bk (PQ.th (PQ.th (PQ.bk (PQ.th PQ.body)))))) hS9 rfl rfl (.int .i64 (IntKind.i64.wrap (((f.sure : Nat) : Int) + ((modI (ks.getD i 0) ((f.b.length - f.sure) + 1) : Nat) : Int)))) (by kernel_rfl) ?_
            refine gd_cv 49 (Ni (f.sure + (modI (ks.getD i 0) ((f.b.length - f.sure) + 1)))) (cv_i64 (by omega)) rfl ?_
            refine gd_pure 21 rfl (by kernel_rfl) (PQ.th (PQ.bk (PQ.th (PQ.th (PQ.bk (PQ.th PQ.body)))))) hS9 rfl rfl (Pp fb 0) (by kernel_rfl) ?_
            refine gd_pure 22 rfl (by kernel_rfl) (PQ.th (PQ.bk (PQ.th (PQ.th (PQ.bk (PQ.th PQ.body)))))) hS9 rfl rfl (Pp fb 1) (by kernel_rfl) ?_
            refine gd_keep [(0, Pp db 0), (1, .slice Ak ks.length ck), (6, Pp fb 0), (12, .slice A6 D.fs.length c7), (13, Ni D.fs.length), (14, Ni i), (49, Ni (f.sure + (modI (ks.getD i 0) ((f.b.length - f.sure) + 1)))), (51, Pp fb 1)] (by kernel_rfl) ?_
            refine gd_st 23 (by kernel_rfl) (st_storeK (v := Ni (f.sure + (modI (ks.getD i 0) ((f.b.length - f.sure) + 1)))) 0 rfl rfl rfl hH rfl rfl rfl (by kernel_rfl) rfl (by simp) ?_)
            clear hH; intro w23 hH
            replace hH : Hp w w23 _ _ [.blk fb 84 [.slice Af f.b.length cf, Ni (f.sure + (modI (ks.getD i 0) ((f.b.length - f.sure) + 1)))], .vw (.slice Af f.b.length cf) 5 f.b, restO es2 (ixE es2 f.name), .blk db 70 [.map (some mb), .bool D.off, arV D.ar ab], .smap mb (kvE es2), .grp (armO D.ar ab), .row (.slice A6 D.fs.length c7) 9 1 D.fs.length (nmC D.fs)] := hH
            replace hS9 := hH.sublist (.cons _ (.cons_cons _ (.cons_cons _ (.cons_cons _ (.cons_cons _ (.cons_cons _ (.cons_cons _ (List.nil_sublist _))))))))
            refine ⟨hS9, ?_⟩
            refine gd_keep [(0, Pp db 0), (1, .slice Ak ks.length ck), (6, Pp fb 0), (12, .slice A6 D.fs.length c7), (13, Ni D.fs.length), (14, Ni i)] (by kernel_rfl) ?_
            refine gd_done (by kernel_rfl) ?_
            refine at_sub [(0, Pp db 0), (1, .slice Ak ks.length ck), (6, Pp fb 0), (12, .slice A6 D.fs.length c7), (13, Ni D.fs.length), (14, Ni i)] (Sub.of_eq (by kernel_rfl)) ?_
            refine cut_end (f.sure + (modI (ks.getD i 0) ((f.b.length - f.sure) + 1))) (Sub.of_eq (by kernel_rfl)) ?_
            exact ⟨by unfold startS; rw [if_pos (by omega)], hH⟩
        ·
          refine st_q rfl rfl rfl (rd_loadK 0 (by kernel_rfl) hH rfl rfl rfl) ?_
          refine ⟨hS9, ?_⟩
          refine gd_keep [(0, Pp db 0), (1, .slice Ak ks.length ck), (6, Pp fb 0), (12, .slice A6 D.fs.length c7), (13, Ni D.fs.length), (14, Ni i), (29, Pp fb 0), (31, Pp fb 1), (36, .int .i64 (ks.getD i 0)), (40, .slice Af f.b.length cf), (44, Pp fb 1)] (by kernel_rfl) ?_
          refine gd_q 12 rfl (by kernel_rfl) (PQ.th (PQ.bk (PQ.th (PQ.th (PQ.bk (PQ.th PQ.body)))))) hS9 rfl rfl (fun w_ hS => (rd_len (e := 5) (by kernel_rfl) rfl)) ?_
          refine gd_st2 3 16 (by kernel_rfl) ?_ ?_
          ·
            refine st_q rfl rfl rfl (rd_loadK 0 (by kernel_rfl) hH rfl rfl rfl) ?_
            refine ⟨hS9, ?_⟩
            refine gd_keep [(0, Pp db 0), (1, .slice Ak ks.length ck), (6, Pp fb 0), (12, .slice A6 D.fs.length c7), (13, Ni D.fs.length), (14, Ni i), (29, Pp fb 0), (32, Ni f.sure), (36, .int .i64 (ks.getD i 0)), (41, Ni f.b.length), (44, Pp fb 1)] (by kernel_rfl) ?_
            refine gd_st 16 (by kernel_rfl) (st_q rfl rfl rfl (rd_loadK 0 (by kernel_rfl) hH rfl rfl rfl) ?_)
            refine ⟨hS9, ?_⟩
            refine gd_keep [(0, Pp db 0), (1, .slice Ak ks.length ck), (6, Pp fb 0), (12, .slice A6 D.fs.length c7), (13, Ni D.fs.length), (14, Ni i), (29, Pp fb 0), (32, Ni f.sure), (36, .int .i64 (ks.getD i 0)), (41, Ni f.b.length), (45, Ni f.sure)] (by kernel_rfl) ?_
            refine gd_pure 17 rfl (by kernel_rfl) (PQ.th (PQ.bk (PQ.th (PQ.th (PQ.bk (PQ.th PQ.body)))))) hS9 rfl rfl (.int .i64 (IntKind.i64.wrap (((f.b.length : Nat) : Int) - ((f.sure : Nat) : Int)))) (by kernel_rfl) ?_
            refine gd_cv 46 (Ni (f.b.length - f.sure)) (cv_i64 (by omega)) rfl ?_
            refine gd_pure 18 rfl (by kernel_rfl) (PQ.th (PQ.bk (PQ.th (PQ.th (PQ.bk (PQ.th PQ.body)))))) hS9 rfl rfl (.int .i64 (IntKind.i64.wrap (((f.b.length - f.sure : Nat) : Int) + 1))) (by kernel_rfl) ?_
            refine gd_cv 47 (Ni ((f.b.length - f.sure) + 1)) (cv_i64 (by omega)) rfl ?_
            refine gd_st 19 (by kernel_rfl) (st_call rfl rfl rfl (by kernel_rfl) rfl (Modulo_ct (ks.getD i 0) ((f.b.length - f.sure) + 1) _ (by omega) (by omega)) ?_)
            rintro _ w24 ⟨rfl, hF25⟩
            replace hH := hH.call hF25; clear hF25
            replace hH : Hp w w24 _ _ [.blk fb 84 [.slice Af f.b.length cf, Ni f.sure], .vw (.slice Af f.b.length cf) 5 f.b, restO es2 (ixE es2 f.name), .blk db 70 [.map (some mb), .bool D.off, arV D.ar ab], .smap mb (kvE es2), .grp (armO D.ar ab), .row (.slice A6 D.fs.length c7) 9 1 D.fs.length (nmC D.fs)] := hH
            replace hS9 := hH.sublist (.cons _ (.cons_cons _ (.cons_cons _ (.cons_cons _ (.cons_cons _ (.cons_cons _ (.cons_cons _ (List.nil_sublist _))))))))
            refine ⟨hS9, ?_⟩
            refine gd_keep [(0, Pp db 0), (1, .slice Ak ks.length ck), (6, Pp fb 0), (12, .slice A6 D.fs.length c7), (13, Ni D.fs.length), (14, Ni i), (29, Pp fb 0), (32, Ni f.sure), (48, Ni (modI (ks.getD i 0) ((f.b.length - f.sure) + 1)))] (by kernel_rfl) ?_
            refine gd_pure 20 rfl (by kernel_rfl) (PQ.th (PQ.bk (PQ.th (PQ.th (PQ.bk (PQ.th PQ.body)))))) hS9 rfl rfl (.int .i64 (IntKind.i64.wrap (((f.sure : Nat) : Int) + ((modI (ks.getD i 0) ((f.b.length - f.sure) + 1) : Nat) : Int)))) (by kernel_rfl) ?_
            refine gd_cv 49 (Ni (f.sure + (modI (ks.getD i 0) ((f.b.length - f.sure) + 1)))) (cv_i64 (by omega)) rfl ?_
            refine gd_pure 21 rfl (by kernel_rfl) (PQ.th (PQ.bk (PQ.th (PQ.th (PQ.bk (PQ.th PQ.body)))))) hS9 rfl rfl (Pp fb 0) (by kernel_rfl) ?_
            refine gd_pure 22 rfl (by kernel_rfl) (PQ.th (PQ.bk (PQ.th (PQ.th (PQ.bk (PQ.th PQ.body)))))) hS9 rfl rfl (Pp fb 1) (by kernel_rfl) ?_
            refine gd_keep [(0, Pp db 0), (1, .slice Ak ks.length ck), (6, Pp fb 0), (12, .slice A6 D.fs.length c7), (13, Ni D.fs.length), (14, Ni i), (49, Ni (f.sure + (modI (ks.getD i 0) ((f.b.length - f.sure) + 1)))), (51, Pp fb 1)] (by kernel_rfl) ?_
            refine gd_st 23 (by kernel_rfl) (st_storeK (v := Ni (f.sure + (modI (ks.getD i 0) ((f.b.length - f.sure) + 1)))) 0 rfl rfl rfl hH rfl rfl rfl (by kernel_rfl) rfl (by simp) ?_)
            clear hH; intro w26 hH
            replace hH : Hp w w26 _ _ [.blk fb 84 [.slice Af f.b.length cf, Ni (f.sure + (modI (ks.getD i 0) ((f.b.length - f.sure) + 1)))], .vw (.slice Af f.b.length cf) 5 f.b, restO es2 (ixE es2 f.name), .blk db 70 [.map (some mb), .bool D.off, arV D.ar ab], .smap mb (kvE es2), .grp (armO D.ar ab), .row (.slice A6 D.fs.length c7) 9 1 D.fs.length (nmC D.fs)] := hH
            replace hS9 := hH.sublist (.cons _ (.cons_cons _ (.cons_cons _ (.cons_cons _ (.cons_cons _ (.cons_cons _ (.cons_cons _ (List.nil_sublist _))))))))
            refine ⟨hS9, ?_⟩
            refine gd_keep [(0, Pp db 0), (1, .slice Ak ks.length ck), (6, Pp fb 0), (12, .slice A6 D.fs.length c7), (13, Ni D.fs.length), (14, Ni i)] (by kernel_rfl) ?_
            refine gd_done (by kernel_rfl) ?_
            refine at_sub [(0, Pp db 0), (1, .slice Ak ks.length ck), (6, Pp fb 0), (12, .slice A6 D.fs.length c7), (13, Ni D.fs.length), (14, Ni i)] (Sub.of_eq (by kernel_rfl)) ?_
            refine cut_end (f.sure + (modI (ks.getD i 0) ((f.b.length - f.sure) + 1))) (Sub.of_eq (by kernel_rfl)) ?_
            exact ⟨by unfold startS; rw [if_pos (by omega)], hH⟩
          ·
            refine st_q rfl rfl rfl (rd_loadK 0 (by kernel_rfl) hH rfl rfl rfl) ?_
            refine ⟨hS9, ?_⟩
            refine gd_keep [(0, Pp db 0), (1, .slice Ak ks.length ck), (6, Pp fb 0), (12, .slice A6 D.fs.length c7), (13, Ni D.fs.length), (14, Ni i), (29, Pp fb 0), (31, Pp fb 1), (36, .int .i64 (ks.getD i 0)), (41, Ni f.b.length), (45, Ni f.sure)] (by kernel_rfl) ?_
            refine gd_pure 17 rfl (by kernel_rfl) (PQ.th (PQ.bk (PQ.th (PQ.th (PQ.bk (PQ.th PQ.body)))))) hS9 rfl rfl (.int .i64 (IntKind.i64.wrap (((f.b.length : Nat) : Int) - ((f.sure : Nat) : Int)))) (by kernel_rfl) ?_
            refine gd_cv 46 (Ni (f.b.length - f.sure)) (cv_i64 (by omega)) rfl ?_
            refine gd_pure 18 rfl (by kernel_rfl) (PQ.th (PQ.bk (PQ.th (PQ.th (PQ.bk (PQ.th PQ.body)))))) hS9 rfl rfl (.int .i64 (IntKind.i64.wrap (((f.b.length - f.sure : Nat) : Int) + 1))) (by kernel_rfl) ?_
            refine gd_cv 47 (Ni ((f.b.length - f.sure) + 1)) (cv_i64 (by omega)) rfl ?_
            refine gd_st2 3 19 (by kernel_rfl) ?_ ?_
            ·
              refine st_q rfl rfl rfl (rd_loadK 0 (by kernel_rfl) hH rfl rfl rfl) ?_
              refine ⟨hS9, ?_⟩
              refine gd_keep [(0, Pp db 0), (1, .slice Ak ks.length ck), (6, Pp fb 0), (12, .slice A6 D.fs.length c7), (13, Ni D.fs.length), (14, Ni i), (29, Pp fb 0), (32, Ni f.sure), (36, .int .i64 (ks.getD i 0)), (47, Ni ((f.b.length - f.sure) + 1))] (by kernel_rfl) ?_
              refine gd_st 19 (by kernel_rfl) (st_call rfl rfl rfl (by kernel_rfl) rfl (Modulo_ct (ks.getD i 0) ((f.b.length - f.sure) + 1) _ (by omega) (by omega)) ?_)
              rintro _ w27 ⟨rfl, hF28⟩
              replace hH := hH.call hF28; clear hF28
              replace hH : Hp w w27 _ _ [.blk fb 84 [.slice Af f.b.length cf, Ni f.sure], .vw (.slice Af f.b.length cf) 5 f.b, restO es2 (ixE es2 f.name), .blk db 70 [.map (some mb), .bool D.off, arV D.ar ab], .smap mb (kvE es2), .grp (armO D.ar ab), .row (.slice A6 D.fs.length c7) 9 1 D.fs.length (nmC D.fs)] := hH
              replace hS9 := hH.sublist (.cons _ (.cons_cons _ (.cons_cons _ (.cons_cons _ (.cons_cons _ (.cons_cons _ (.cons_cons _ (List.nil_sublist _))))))))
              refine ⟨hS9, ?_⟩
              refine gd_keep [(0, Pp db 0), (1, .slice Ak ks.length ck), (6, Pp fb 0), (12, .slice A6 D.fs.length c7), (13, Ni D.fs.length), (14, Ni i), (29, Pp fb 0), (32, Ni f.sure), (48, Ni (modI (ks.getD i 0) ((f.b.length - f.sure) + 1)))] (by kernel_rfl) ?_
              refine gd_pure 20 rfl (by kernel_rfl) (PQ.th (PQ.bk (PQ.th (PQ.th (PQ.bk (PQ.th PQ.body)))))) hS9 rfl rfl (.int .i64 (IntKind.i64.wrap (((f.sure : Nat) : Int) + ((modI (ks.getD i 0) ((f.b.length - f.sure) + 1) : Nat) : Int)))) (by kernel_rfl) ?_
              refine gd_cv 49 (Ni (f.sure + (modI (ks.getD i 0) ((f.b.length - f.sure) + 1)))) (cv_i64 (by omega)) rfl ?_
              refine gd_pure 21 rfl (by kernel_rfl) (PQ.th (PQ.bk (PQ.th (PQ.th (PQ.bk (PQ.th PQ.body)))))) hS9 rfl rfl (Pp fb 0) (by kernel_rfl) ?_
              refine gd_pure 22 rfl (by kernel_rfl) (PQ.th (PQ.bk (PQ.th (PQ.th (PQ.bk (PQ.th PQ.body)))))) hS9 rfl rfl (Pp fb 1) (by kernel_rfl) ?_
              refine gd_keep [(0, Pp db 0), (1, .slice Ak ks.length ck), (6, Pp fb 0), (12, .slice A6 D.fs.length c7), (13, Ni D.fs.length), (14, Ni i), (49, Ni (f.sure + (modI (ks.getD i 0) ((f.b.length - f.sure) + 1)))), (51, Pp fb 1)] (by kernel_rfl) ?_
              refine gd_st 23 (by kernel_rfl) (st_storeK (v := Ni (f.sure + (modI (ks.getD i 0) ((f.b.length - f.sure) + 1)))) 0 rfl rfl rfl hH rfl rfl rfl (by kernel_rfl) rfl (by simp) ?_)
              clear hH; intro w29 hH
              replace hH : Hp w w29 _ _ [.blk fb 84 [.slice Af f.b.length cf, Ni (f.sure + (modI (ks.getD i 0) ((f.b.length - f.sure) + 1)))], .vw (.slice Af f.b.length cf) 5 f.b, restO es2 (ixE es2 f.name), .blk db 70 [.map (some mb), .bool D.off, arV D.ar ab], .smap mb (kvE es2), .grp (armO D.ar ab), .row (.slice A6 D.fs.length c7) 9 1 D.fs.length (nmC D.fs)] := hH
              replace hS9 := hH.sublist (.cons _ (.cons_cons _ (.cons_cons _ (.cons_cons _ (.cons_cons _ (.cons_cons _ (.cons_cons _ (List.nil_sublist _))))))))
              refine ⟨hS9, ?_⟩
              refine gd_keep [(0, Pp db 0), (1, .slice Ak ks.length ck), (6, Pp fb 0), (12, .slice A6 D.fs.length c7), (13, Ni D.fs.length), (14, Ni i)] (by kernel_rfl) ?_
              refine gd_done (by kernel_rfl) ?_
              refine at_sub [(0, Pp db 0), (1, .slice Ak ks.length ck), (6, Pp fb 0), (12, .slice A6 D.fs.length c7), (13, Ni D.fs.length), (14, Ni i)] (Sub.of_eq (by kernel_rfl)) ?_
              refine cut_end (f.sure + (modI (ks.getD i 0) ((f.b.length - f.sure) + 1))) (Sub.of_eq (by kernel_rfl)) ?_
              exact ⟨by unfold startS; rw [if_pos (by omega)], hH⟩
            ·
              refine st_call rfl rfl rfl (by kernel_rfl) rfl (Modulo_ct (ks.getD i 0) ((f.b.length - f.sure) + 1) _ (by omega) (by omega)) ?_
              rintro _ w30 ⟨rfl, hF31⟩
              replace hH := hH.call hF31; clear hF31
              replace hH : Hp w w30 _ _ [.blk fb 84 [.slice Af f.b.length cf, Ni f.sure], .vw (.slice Af f.b.length cf) 5 f.b, restO es2 (ixE es2 f.name), .blk db 70 [.map (some mb), .bool D.off, arV D.ar ab], .smap mb (kvE es2), .grp (armO D.ar ab), .row (.slice A6 D.fs.length c7) 9 1 D.fs.length (nmC D.fs)] := hH
              replace hS9 := hH.sublist (.cons _ (.cons_cons _ (.cons_cons _ (.cons_cons _ (.cons_cons _ (.cons_cons _ (.cons_cons _ (List.nil_sublist _))))))))
              refine ⟨hS9, ?_⟩
              refine gd_keep [(0, Pp db 0), (1, .slice Ak ks.length ck), (6, Pp fb 0), (12, .slice A6 D.fs.length c7), (13, Ni D.fs.length), (14, Ni i), (29, Pp fb 0), (31, Pp fb 1), (48, Ni (modI (ks.getD i 0) ((f.b.length - f.sure) + 1)))] (by kernel_rfl) ?_
              refine gd_st 3 (by kernel_rfl) (st_q rfl rfl rfl (rd_loadK 0 (by kernel_rfl) hH rfl rfl rfl) ?_)
              refine ⟨hS9, ?_⟩
              refine gd_keep [(0, Pp db 0), (1, .slice Ak ks.length ck), (6, Pp fb 0), (12, .slice A6 D.fs.length c7), (13, Ni D.fs.length), (14, Ni i), (29, Pp fb 0), (32, Ni f.sure), (48, Ni (modI (ks.getD i 0) ((f.b.length - f.sure) + 1)))] (by kernel_rfl) ?_
              refine gd_pure 20 rfl (by kernel_rfl) (PQ.th (PQ.bk (PQ.th (PQ.th (PQ.bk (PQ.th PQ.body)))))) hS9 rfl rfl (.int .i64 (IntKind.i64.wrap (((f.sure : Nat) : Int) + ((modI (ks.getD i 0) ((f.b.length - f.sure) + 1) : Nat) : Int)))) (by kernel_rfl) ?_
              refine gd_cv 49 (Ni (f.sure + (modI (ks.getD i 0) ((f.b.length - f.sure) + 1)))) (cv_i64 (by omega)) rfl ?_
              refine gd_pure 21 rfl (by kernel_rfl) (PQ.th (PQ.bk (PQ.th (PQ.th (PQ.bk (PQ.th PQ.body)))))) hS9 rfl rfl (Pp fb 0) (by kernel_rfl) ?_
              refine gd_pure 22 rfl (by kernel_rfl) (PQ.th (PQ.bk (PQ.th (PQ.th (PQ.bk (PQ.th PQ.body)))))) hS9 rfl rfl (Pp fb 1) (by kernel_rfl) ?_
              refine gd_keep [(0, Pp db 0), (1, .slice Ak ks.length ck), (6, Pp fb 0), (12, .slice A6 D.fs.length c7), (13, Ni D.fs.length), (14, Ni i), (49, Ni (f.sure + (modI (ks.getD i 0) ((f.b.length - f.sure) + 1)))), (51, Pp fb 1)] (by kernel_rfl) ?_
              refine gd_st 23 (by kernel_rfl) (st_storeK (v := Ni (f.sure + (modI (ks.getD i 0) ((f.b.length - f.sure) + 1)))) 0 rfl rfl rfl hH rfl rfl rfl (by kernel_rfl) rfl (by simp) ?_)
              clear hH; intro w32 hH
              replace hH : Hp w w32 _ _ [.blk fb 84 [.slice Af f.b.length cf, Ni (f.sure + (modI (ks.getD i 0) ((f.b.length - f.sure) + 1)))], .vw (.slice Af f.b.length cf) 5 f.b, restO es2 (ixE es2 f.name), .blk db 70 [.map (some mb), .bool D.off, arV D.ar ab], .smap mb (kvE es2), .grp (armO D.ar ab), .row (.slice A6 D.fs.length c7) 9 1 D.fs.length (nmC D.fs)] := hH
              replace hS9 := hH.sublist (.cons _ (.cons_cons _ (.cons_cons _ (.cons_cons _ (.cons_cons _ (.cons_cons _ (.cons_cons _ (List.nil_sublist _))))))))
              refine ⟨hS9, ?_⟩
              refine gd_keep [(0, Pp db 0), (1, .slice Ak ks.length ck), (6, Pp fb 0), (12, .slice A6 D.fs.length c7), (13, Ni D.fs.length), (14, Ni i)] (by kernel_rfl) ?_
              refine gd_done (by kernel_rfl) ?_
              refine at_sub [(0, Pp db 0), (1, .slice Ak ks.length ck), (6, Pp fb 0), (12, .slice A6 D.fs.length c7), (13, Ni D.fs.length), (14, Ni i)] (Sub.of_eq (by kernel_rfl)) ?_
              refine cut_end (f.sure + (modI (ks.getD i 0) ((f.b.length - f.sure) + 1))) (Sub.of_eq (by kernel_rfl)) ?_
              exact ⟨by unfold startS; rw [if_pos (by omega)], hH⟩
        ·
          refine st_q rfl rfl rfl (rd_loadK 0 (by kernel_rfl) hH rfl rfl rfl) ?_
          refine ⟨hS9, ?_⟩
          refine gd_keep [(0, Pp db 0), (1, .slice Ak ks.length ck), (6, Pp fb 0), (12, .slice A6 D.fs.length c7), (13, Ni D.fs.length), (14, Ni i), (29, Pp fb 0), (31, Pp fb 1), (36, .int .i64 (ks.getD i 0)), (39, Pp fb 0), (45, Ni f.sure)] (by kernel_rfl) ?_
          refine gd_st2 3 11 (by kernel_rfl) ?_ ?_
          ·
            refine st_q rfl rfl rfl (rd_loadK 0 (by kernel_rfl) hH rfl rfl rfl) ?_
            refine ⟨hS9, ?_⟩
            refine gd_keep [(0, Pp db 0), (1, .slice Ak ks.length ck), (6, Pp fb 0), (12, .slice A6 D.fs.length c7), (13, Ni D.fs.length), (14, Ni i), (29, Pp fb 0), (32, Ni f.sure), (36, .int .i64 (ks.getD i 0)), (39, Pp fb 0), (45, Ni f.sure)] (by kernel_rfl) ?_
            refine gd_st 11 (by kernel_rfl) (st_q rfl rfl rfl (rd_loadK 0 (by kernel_rfl) hH rfl rfl rfl) ?_)
            refine ⟨hS9, ?_⟩
            refine gd_keep [(0, Pp db 0), (1, .slice Ak ks.length ck), (6, Pp fb 0), (12, .slice A6 D.fs.length c7), (13, Ni D.fs.length), (14, Ni i), (29, Pp fb 0), (32, Ni f.sure), (36, .int .i64 (ks.getD i 0)), (40, .slice Af f.b.length cf), (45, Ni f.sure)] (by kernel_rfl) ?_
            refine gd_q 12 rfl (by kernel_rfl) (PQ.th (PQ.bk (PQ.th (PQ.th (PQ.bk (PQ.th PQ.body)))))) hS9 rfl rfl (fun w_ hS => (rd_len (e := 5) (by kernel_rfl) rfl)) ?_
            refine gd_pure 17 rfl (by kernel_rfl) (PQ.th (PQ.bk (PQ.th (PQ.th (PQ.bk (PQ.th PQ.body)))))) hS9 rfl rfl (.int .i64 (IntKind.i64.wrap (((f.b.length : Nat) : Int) - ((f.sure : Nat) : Int)))) (by kernel_rfl) ?_
            refine gd_cv 46 (Ni (f.b.length - f.sure)) (cv_i64 (by omega)) rfl ?_
            refine gd_pure 18 rfl (by kernel_rfl) (PQ.th (PQ.bk (PQ.th (PQ.th (PQ.bk (PQ.th PQ.body)))))) hS9 rfl rfl (.int .i64 (IntKind.i64.wrap (((f.b.length - f.sure : Nat) : Int) + 1))) (by kernel_rfl) ?_
            refine gd_cv 47 (Ni ((f.b.length - f.sure) + 1)) (cv_i64 (by omega)) rfl ?_
            refine gd_keep [(0, Pp db 0), (1, .slice Ak ks.length ck), (6, Pp fb 0), (12, .slice A6 D.fs.length c7), (13, Ni D.fs.length), (14, Ni i), (29, Pp fb 0), (32, Ni f.sure), (36, .int .i64 (ks.getD i 0)), (47, Ni ((f.b.length - f.sure) + 1))] (by kernel_rfl) ?_
            refine gd_st 19 (by kernel_rfl) (st_call rfl rfl rfl (by kernel_rfl) rfl (Modulo_ct (ks.getD i 0) ((f.b.length - f.sure) + 1) _ (by omega) (by omega)) ?_)
            rintro _ w33 ⟨rfl, hF34⟩
            replace hH := hH.call hF34; clear hF34
            replace hH : Hp w w33 _ _ [.blk fb 84 [.slice Af f.b.length cf, Ni f.sure], .vw (.slice Af f.b.length cf) 5 f.b, restO es2 (ixE es2 f.name), .blk db 70 [.map (some mb), .bool D.off, arV D.ar ab], .smap mb (kvE es2), .grp (armO D.ar ab), .row (.slice A6 D.fs.length c7) 9 1 D.fs.length (nmC D.fs)] := hH
            replace hS9 := hH.sublist (.cons _ (.cons_cons _ (.cons_cons _ (.cons_cons _ (.cons_cons _ (.cons_cons _ (.cons_cons _ (List.nil_sublist _))))))))
            refine ⟨hS9, ?_⟩
            refine gd_keep [(0, Pp db 0), (1, .slice Ak ks.length ck), (6, Pp fb 0), (12, .slice A6 D.fs.length c7), (13, Ni D.fs.length), (14, Ni i), (29, Pp fb 0), (32, Ni f.sure), (48, Ni (modI (ks.getD i 0) ((f.b.length - f.sure) + 1)))] (by kernel_rfl) ?_
            refine gd_pure 20 rfl (by kernel_rfl) (PQ.th (PQ.bk (PQ.th (PQ.th (PQ.bk (PQ.th PQ.body)))))) hS9 rfl rfl (.int .i64 (IntKind.i64.wrap (((f.sure : Nat) : Int) + ((modI (ks.getD i 0) ((f.b.length - f.sure) + 1) : Nat) : Int)))) (by kernel_rfl) ?_
            refine gd_cv 49 (Ni (f.sure + (modI (ks.getD i 0) ((f.b.length - f.sure) + 1)))) (cv_i64 (by omega)) rfl ?_
            refine gd_pure 21 rfl (by kernel_rfl) (PQ.th (PQ.bk (PQ.th (PQ.th (PQ.bk (PQ.th PQ.body)))))) hS9 rfl rfl (Pp fb 0) (by kernel_rfl) ?_
            refine gd_pure 22 rfl (by kernel_rfl) (PQ.th (PQ.bk (PQ.th (PQ.th (PQ.bk (PQ.th PQ.body)))))) hS9 rfl rfl (Pp fb 1) (by kernel_rfl) ?_
            refine gd_keep [(0, Pp db 0), (1, .slice Ak ks.length ck), (6, Pp fb 0), (12, .slice A6 D.fs.length c7), (13, Ni D.fs.length), (14, Ni i), (49, Ni (f.sure + (modI (ks.getD i 0) ((f.b.length - f.sure) + 1)))), (51, Pp fb 1)] (by kernel_rfl) ?_
            refine gd_st 23 (by kernel_rfl) (st_storeK (v := Ni (f.sure + (modI (ks.getD i 0) ((f.b.length - f.sure) + 1)))) 0 rfl rfl rfl hH rfl rfl rfl (by kernel_rfl) rfl (by simp) ?_)
            clear hH; intro w35 hH
            replace hH : Hp w w35 _ _ [.blk fb 84 [.slice Af f.b.length cf, Ni (f.sure + (modI (ks.getD i 0) ((f.b.length - f.sure) + 1)))], .vw (.slice Af f.b.length cf) 5 f.b, restO es2 (ixE es2 f.name), .blk db 70 [.map (some mb), .bool D.off, arV D.ar ab], .smap mb (kvE es2), .grp (armO D.ar ab), .row (.slice A6 D.fs.length c7) 9 1 D.fs.length (nmC D.fs)] := hH
            replace hS9 := hH.sublist (.cons _ (.cons_cons _ (.cons_cons _ (.cons_cons _ (.cons_cons _ (.cons_cons _ (.cons_cons _ (List.nil_sublist _))))))))
            refine ⟨hS9, ?_⟩
            refine gd_keep [(0, Pp db 0), (1, .slice Ak ks.length ck), (6, Pp fb 0), (12, .slice A6 D.fs.length c7), (13, Ni D.fs.length), (14, Ni i)] (by kernel_rfl) ?_
            refine gd_done (by kernel_rfl) ?_
            refine at_sub [(0, Pp db 0), (1, .slice Ak ks.length ck), (6, Pp fb 0), (12, .slice A6 D.fs.length c7), (13, Ni D.fs.length), (14, Ni i)] (Sub.of_eq (by kernel_rfl)) ?_
            refine cut_end (f.sure + (modI (ks.getD i 0) ((f.b.length - f.sure) + 1))) (Sub.of_eq (by kernel_rfl)) ?_
            exact ⟨by unfold startS; rw [if_pos (by omega)], hH⟩
          ·
            refine st_q rfl rfl rfl (rd_loadK 0 (by kernel_rfl) hH rfl rfl rfl) ?_
            refine ⟨hS9, ?_⟩
            refine gd_keep [(0, Pp db 0), (1, .slice Ak ks.length ck), (6, Pp fb 0), (12, .slice A6 D.fs.length c7), (13, Ni D.fs.length), (14, Ni i), (29, Pp fb 0), (31, Pp fb 1), (36, .int .i64 (ks.getD i 0)), (40, .slice Af f.b.length cf), (45, Ni f.sure)] (by kernel_rfl) ?_
            refine gd_q 12 rfl (by kernel_rfl) (PQ.th (PQ.bk (PQ.th (PQ.th (PQ.bk (PQ.th PQ.body)))))) hS9 rfl rfl (fun w_ hS => (rd_len (e := 5) (by kernel_rfl) rfl)) ?_
            refine gd_pure 17 rfl (by kernel_rfl) (PQ.th (PQ.bk (PQ.th (PQ.th (PQ.bk (PQ.th PQ.body)))))) hS9 rfl rfl (.int .i64 (IntKind.i64.wrap (((f.b.length : Nat) : Int) - ((f.sure : Nat) : Int)))) (by kernel_rfl) ?_
            refine gd_cv 46 (Ni (f.b.length - f.sure)) (cv_i64 (by omega)) rfl ?_
            refine gd_pure 18 rfl (by kernel_rfl) (PQ.th (PQ.bk (PQ.th (PQ.th (PQ.bk (PQ.th PQ.body)))))) hS9 rfl rfl (.int .i64 (IntKind.i64.wrap (((f.b.length - f.sure : Nat) : Int) + 1))) (by kernel_rfl) ?_
            refine gd_cv 47 (Ni ((f.b.length - f.sure) + 1)) (cv_i64 (by omega)) rfl ?_
            refine gd_keep [(0, Pp db 0), (1, .slice Ak ks.length ck), (6, Pp fb 0), (12, .slice A6 D.fs.length c7), (13, Ni D.fs.length), (14, Ni i), (29, Pp fb 0), (31, Pp fb 1), (36, .int .i64 (ks.getD i 0)), (47, Ni ((f.b.length - f.sure) + 1))] (by kernel_rfl) ?_
            refine gd_st2 3 19 (by kernel_rfl) ?_ ?_
            ·
              refine st_q rfl rfl rfl (rd_loadK 0 (by kernel_rfl) hH rfl rfl rfl) ?_
              refine ⟨hS9, ?_⟩
              refine gd_keep [(0, Pp db 0), (1, .slice Ak ks.length ck), (6, Pp fb 0), (12, .slice A6 D.fs.length c7), (13, Ni D.fs.length), (14, Ni i), (29, Pp fb 0), (32, Ni f.sure), (36, .int .i64 (ks.getD i 0)), (47, Ni ((f.b.length - f.sure) + 1))] (by kernel_rfl) ?_
              refine gd_st 19 (by kernel_rfl) (st_call rfl rfl rfl (by kernel_rfl) rfl (Modulo_ct (ks.getD i 0) ((f.b.length - f.sure) + 1) _ (by omega) (by omega)) ?_)
              rintro _ w36 ⟨rfl, hF37⟩
              replace hH := hH.call hF37; clear hF37
              replace hH : Hp w w36 _ _ [.blk fb 84 [.slice Af f.b.length cf, Ni f.sure], .vw (.slice Af f.b.length cf) 5 f.b, restO es2 (ixE es2 f.name), .blk db 70 [.map (some mb), .bool D.off, arV D.ar ab], .smap mb (kvE es2), .grp (armO D.ar ab), .row (.slice A6 D.fs.length c7) 9 1 D.fs.length (nmC D.fs)] := hH
              replace hS9 := hH.sublist (.cons _ (.cons_cons _ (.cons_cons _ (.cons_cons _ (.cons_cons _ (.cons_cons _ (.cons_cons _ (List.nil_sublist _))))))))
              refine ⟨hS9, ?_⟩
              refine gd_keep [(0, Pp db 0), (1, .slice Ak ks.length ck), (6, Pp fb 0), (12, .slice A6 D.fs.length c7), (13, Ni D.fs.length), (14, Ni i), (29, Pp fb 0), (32, Ni f.sure), (48, Ni (modI (ks.getD i 0) ((f.b.length - f.sure) + 1)))] (by kernel_rfl) ?_
              refine gd_pure 20 rfl (by kernel_rfl) (PQ.th (PQ.bk (PQ.th (PQ.th (PQ.bk (PQ.th PQ.body)))))) hS9 rfl rfl (.int .i64 (IntKind.i64.wrap (((f.sure : Nat) : Int) + ((modI (ks.getD i 0) ((f.b.length - f.sure) + 1) : Nat) : Int)))) (by kernel_rfl) ?_
              refine gd_cv 49 (Ni (f.sure + (modI (ks.getD i 0) ((f.b.length - f.sure) + 1)))) (cv_i64 (by omega)) rfl ?_
              refine gd_pure 21 rfl (by kernel_rfl) (PQ.th (PQ.bk (PQ.th (PQ.th (PQ.bk (PQ.th PQ.body)))))) hS9 rfl rfl (Pp fb 0) (by kernel_rfl) ?_
              refine gd_pure 22 rfl (by kernel_rfl) (PQ.th (PQ.bk (PQ.th (PQ.th (PQ.bk (PQ.th PQ.body)))))) hS9 rfl rfl (Pp fb 1) (by kernel_rfl) ?_
              refine gd_keep [(0, Pp db 0), (1, .slice Ak ks.length ck), (6, Pp fb 0), (12, .slice A6 D.fs.length c7), (13, Ni D.fs.length), (14, Ni i), (49, Ni (f.sure + (modI (ks.getD i 0) ((f.b.length - f.sure) + 1)))), (51, Pp fb 1)] (by kernel_rfl) ?_
              refine gd_st 23 (by kernel_rfl) (st_storeK (v := Ni (f.sure + (modI (ks.getD i 0) ((f.b.length - f.sure) + 1)))) 0 rfl rfl rfl hH rfl rfl rfl (by kernel_rfl) rfl (by simp) ?_)
              clear hH; intro w38 hH
              replace hH : Hp w w38 _ _ [.blk fb 84 [.slice Af f.b.length cf, Ni (f.sure + (modI (ks.getD i 0) ((f.b.length - f.sure) + 1)))], .vw (.slice Af f.b.length cf) 5 f.b, restO es2 (ixE es2 f.name), .blk db 70 [.map (some mb), .bool D.off, arV D.ar ab], .smap mb (kvE es2), .grp (armO D.ar ab), .row (.slice A6 D.fs.length c7) 9 1 D.fs.length (nmC D.fs)] := hH
              replace hS9 := hH.sublist (.cons _ (.cons_cons _ (.cons_cons _ (.cons_cons _ (.cons_cons _ (.cons_cons _ (.cons_cons _ (List.nil_sublist _))))))))
              refine ⟨hS9, ?_⟩
              refine gd_keep [(0, Pp db 0), (1, .slice Ak ks.length ck), (6, Pp fb 0), (12, .slice A6 D.fs.length c7), (13, Ni D.fs.length), (14, Ni i)] (by kernel_rfl) ?_
              refine gd_done (by kernel_rfl) ?_
              refine at_sub [(0, Pp db 0), (1, .slice Ak ks.length ck), (6, Pp fb 0), (12, .slice A6 D.fs.length c7), (13, Ni D.fs.length), (14, Ni i)] (Sub.of_eq (by kernel_rfl)) ?_
              refine cut_end (f.sure + (modI (ks.getD i 0) ((f.b.length - f.sure) + 1))) (Sub.of_eq (by kernel_rfl)) ?_
              exact ⟨by unfold startS; rw [if_pos (by omega)], hH⟩
            ·
              refine st_call rfl rfl rfl (by kernel_rfl) rfl (Modulo_ct (ks.getD i 0) ((f.b.length - f.sure) + 1) _ (by omega) (by omega)) ?_
              rintro _ w39 ⟨rfl, hF40⟩
              replace hH := hH.call hF40; clear hF40
              replace hH : Hp w w39 _ _ [.blk fb 84 [.slice Af f.b.length cf, Ni f.sure], .vw (.slice Af f.b.length cf) 5 f.b, restO es2 (ixE es2 f.name), .blk db 70 [.map (some mb), .bool D.off, arV D.ar ab], .smap mb (kvE es2), .grp (armO D.ar ab), .row (.slice A6 D.fs.length c7) 9 1 D.fs.length (nmC D.fs)] := hH
              replace hS9 := hH.sublist (.cons _ (.cons_cons _ (.cons_cons _ (.cons_cons _ (.cons_cons _ (.cons_cons _ (.cons_cons _ (List.nil_sublist _))))))))
              refine ⟨hS9, ?_⟩
              refine gd_keep [(0, Pp db 0), (1, .slice Ak ks.length ck), (6, Pp fb 0), (12, .slice A6 D.fs.length c7), (13, Ni D.fs.length), (14, Ni i), (29, Pp fb 0), (31, Pp fb 1), (48, Ni (modI (ks.getD i 0) ((f.b.length - f.sure) + 1)))] (by kernel_rfl) ?_
              refine gd_st 3 (by kernel_rfl) (st_q rfl rfl rfl (rd_loadK 0 (by kernel_rfl) hH rfl rfl rfl) ?_)
              refine ⟨hS9, ?_⟩
              refine gd_keep [(0, Pp db 0), (1, .slice Ak ks.length ck), (6, Pp fb 0), (12, .slice A6 D.fs.length c7), (13, Ni D.fs.length), (14, Ni i), (29, Pp fb 0), (32, Ni f.sure), (48, Ni (modI (ks.getD i 0) ((f.b.length - f.sure) + 1)))] (by kernel_rfl) ?_
              refine gd_pure 20 rfl (by kernel_rfl) (PQ.th (PQ.bk (PQ.th (PQ.th (PQ.bk (PQ.th PQ.body)))))) hS9 rfl rfl (.int .i64 (IntKind.i64.wrap (((f.sure : Nat) : Int) + ((modI (ks.getD i 0) ((f.b.length - f.sure) + 1) : Nat) : Int)))) (by kernel_rfl) ?_
              refine gd_cv 49 (Ni (f.sure + (modI (ks.getD i 0) ((f.b.length - f.sure) + 1)))) (cv_i64 (by omega)) rfl ?_
              refine gd_pure 21 rfl (by kernel_rfl) (PQ.th (PQ.bk (PQ.th (PQ.th (PQ.bk (PQ.th PQ.body)))))) hS9 rfl rfl (Pp fb 0) (by kernel_rfl) ?_
              refine gd_pure 22 rfl (by kernel_rfl) (PQ.th (PQ.bk (PQ.th (PQ.th (PQ.bk (PQ.th PQ.body)))))) hS9 rfl rfl (Pp fb 1) (by kernel_rfl) ?_
              refine gd_keep [(0, Pp db 0), (1, .slice Ak ks.length ck), (6, Pp fb 0), (12, .slice A6 D.fs.length c7), (13, Ni D.fs.length), (14, Ni i), (49, Ni (f.sure + (modI (ks.getD i 0) ((f.b.length - f.sure) + 1)))), (51, Pp fb 1)] (by kernel_rfl) ?_
              refine gd_st 23 (by kernel_rfl) (st_storeK (v := Ni (f.sure + (modI (ks.getD i 0) ((f.b.length - f.sure) + 1)))) 0 rfl rfl rfl hH rfl rfl rfl (by kernel_rfl) rfl (by simp) ?_)
              clear hH; intro w41 hH
              replace hH : Hp w w41 _ _ [.blk fb 84 [.slice Af f.b.length cf, Ni (f.sure + (modI (ks.getD i 0) ((f.b.length - f.sure) + 1)))], .vw (.slice Af f.b.length cf) 5 f.b, restO es2 (ixE es2 f.name), .blk db 70 [.map (some mb), .bool D.off, arV D.ar ab], .smap mb (kvE es2), .grp (armO D.ar ab), .row (.slice A6 D.fs.length c7) 9 1 D.fs.length (nmC D.fs)] := hH
              replace hS9 := hH.sublist (.cons _ (.cons_cons _ (.cons_cons _ (.cons_cons _ (.cons_cons _ (.cons_cons _ (.cons_cons _ (List.nil_sublist _))))))))
              refine ⟨hS9, ?_⟩
              refine gd_keep [(0, Pp db 0), (1, .slice Ak ks.length ck), (6, Pp fb 0), (12, .slice A6 D.fs.length c7), (13, Ni D.fs.length), (14, Ni i)] (by kernel_rfl) ?_
              refine gd_done (by kernel_rfl) ?_
              refine at_sub [(0, Pp db 0), (1, .slice Ak ks.length ck), (6, Pp fb 0), (12, .slice A6 D.fs.length c7), (13, Ni D.fs.length), (14, Ni i)] (Sub.of_eq (by kernel_rfl)) ?_
              refine cut_end (f.sure + (modI (ks.getD i 0) ((f.b.length - f.sure) + 1))) (Sub.of_eq (by kernel_rfl)) ?_
              exact ⟨by unfold startS; rw [if_pos (by omega)], hH⟩
      try simp only [decide_eq_false_iff_not, Int.not_lt, Int.not_le] at hc2
      refine sw_skip ?_
      refine cut_end (f.sure) (Sub.of_eq (by kernel_rfl)) ?_
      exact ⟨by unfold startS; rw [if_neg (by omega)]; rfl, hH⟩
    clear hH
    rintro s1 w42 ⟨hs1, hH⟩
    have hsl := startS_le hsr i ks
    rw [← hs1] at hsl
    refine sw_keep [(0, Pp db 0), (1, .slice Ak ks.length ck), (6, Pp fb 0), (12, .slice A6 D.fs.length c7), (13, Ni D.fs.length), (14, Ni i)] (by kernel_rfl) ?_
    refine sw_draw (by kernel_rfl) (fun w_ => Hp w w_ (off w (blksOf (ownD db mb ab D es))) (blksOf (ownD db mb ab D es)) [.vw (.slice Af f.b.length cf) 5 f.b, restO es2 (ixE es2 f.name), .blk db 70 [.map (some mb), .bool D.off, arV D.ar ab], .smap mb (kvE es2), .grp (armO D.ar ab), .row (.slice A6 D.fs.length c7) 9 1 D.fs.length (nmC D.fs)]) ?_
    replace hH := hH.drew
    generalize { w42 with drawn := w42.drawn + 1 } = w43 at hH ⊢
    have hS9 := hH.sublist (.cons _ (.cons_cons _ (.cons_cons _ (.cons_cons _ (.cons_cons _ (.cons_cons _ (.cons_cons _ (List.nil_sublist _))))))))
    refine gd_pure 0 rfl (by kernel_rfl) (PQ.bk (PQ.th (PQ.th (PQ.bk (PQ.th PQ.body))))) hS9 rfl rfl (Pp fb 0) (by kernel_rfl) ?_
    refine gd_pure 1 rfl (by kernel_rfl) (PQ.bk (PQ.th (PQ.th (PQ.bk (PQ.th PQ.body))))) hS9 rfl rfl (Pp fb 0) (by kernel_rfl) ?_
    refine gd_pure 2 rfl (by kernel_rfl) (PQ.bk (PQ.th (PQ.th (PQ.bk (PQ.th PQ.body))))) hS9 rfl rfl (Pp fb 0) (by kernel_rfl) ?_
    refine gd_keep [(0, Pp db 0), (1, .slice Ak ks.length ck), (6, Pp fb 0), (12, .slice A6 D.fs.length c7), (13, Ni D.fs.length), (14, Ni i), (52, Pp fb 0), (54, Pp fb 0)] (by kernel_rfl) ?_
    refine gd_pure 3 rfl (by kernel_rfl) (PQ.bk (PQ.th (PQ.th (PQ.bk (PQ.th PQ.body))))) hS9 rfl rfl (Pp fb 0) (by kernel_rfl) ?_
    refine gd_pure 5 rfl (by kernel_rfl) (PQ.bk (PQ.th (PQ.th (PQ.bk (PQ.th PQ.body))))) hS9 rfl rfl (Pp fb 0) (by kernel_rfl) ?_
    refine gd_pure 6 rfl (by kernel_rfl) (PQ.bk (PQ.th (PQ.th (PQ.bk (PQ.th PQ.body))))) hS9 rfl rfl (Pp fb 0) (by kernel_rfl) ?_
    refine gd_keep [(0, Pp db 0), (1, .slice Ak ks.length ck), (6, Pp fb 0), (12, .slice A6 D.fs.length c7), (13, Ni D.fs.length), (14, Ni i), (52, Pp fb 0), (55, Pp fb 0), (58, Pp fb 0)] (by kernel_rfl) ?_
    refine gd_pure 7 rfl (by kernel_rfl) (PQ.bk (PQ.th (PQ.th (PQ.bk (PQ.th PQ.body))))) hS9 rfl rfl (Pp fb 1) (by kernel_rfl) ?_
    refine gd_pure 9 rfl (by kernel_rfl) (PQ.bk (PQ.th (PQ.th (PQ.bk (PQ.th PQ.body))))) hS9 rfl rfl (Pp fb 0) (by kernel_rfl) ?_
    refine gd_pure 10 rfl (by kernel_rfl) (PQ.bk (PQ.th (PQ.th (PQ.bk (PQ.th PQ.body))))) hS9 rfl rfl (Pp fb 0) (by kernel_rfl) ?_
    refine gd_keep [(0, Pp db 0), (1, .slice Ak ks.length ck), (12, .slice A6 D.fs.length c7), (13, Ni D.fs.length), (14, Ni i), (52, Pp fb 0), (55, Pp fb 0), (59, Pp fb 1), (62, Pp fb 0)] (by kernel_rfl) ?_
    refine gd_pure 11 rfl (by kernel_rfl) (PQ.bk (PQ.th (PQ.th (PQ.bk (PQ.th PQ.body))))) hS9 rfl rfl (Pp fb 1) (by kernel_rfl) ?_
    refine gd_st3 4 8 12 (by kernel_rfl) ?_ ?_ ?_
    ·
      refine st_q rfl rfl rfl (rd_loadK 0 (by kernel_rfl) hH rfl rfl rfl) ?_
      refine ⟨hS9, ?_⟩
      refine gd_keep [(0, Pp db 0), (1, .slice Ak ks.length ck), (12, .slice A6 D.fs.length c7), (13, Ni D.fs.length), (14, Ni i), (52, Pp fb 0), (56, .slice Af f.b.length cf), (59, Pp fb 1), (63, Pp fb 1)] (by kernel_rfl) ?_
      refine gd_st2 8 12 (by kernel_rfl) ?_ ?_
      ·
        refine st_q rfl rfl rfl (rd_loadK 0 (by kernel_rfl) hH rfl rfl rfl) ?_
        refine ⟨hS9, ?_⟩
        refine gd_keep [(0, Pp db 0), (1, .slice Ak ks.length ck), (12, .slice A6 D.fs.length c7), (13, Ni D.fs.length), (14, Ni i), (52, Pp fb 0), (56, .slice Af f.b.length cf), (60, Ni s1), (63, Pp fb 1)] (by kernel_rfl) ?_
        refine gd_st 12 (by kernel_rfl) (st_q rfl rfl rfl (rd_loadK 0 (by kernel_rfl) hH rfl rfl rfl) ?_)
        refine ⟨hS9, ?_⟩
        refine gd_keep [(0, Pp db 0), (1, .slice Ak ks.length ck), (12, .slice A6 D.fs.length c7), (13, Ni D.fs.length), (14, Ni i), (52, Pp fb 0), (56, .slice Af f.b.length cf), (60, Ni s1), (64, Ni s1)] (by kernel_rfl) ?_
        refine gd_q 13 rfl (by kernel_rfl) (PQ.bk (PQ.th (PQ.th (PQ.bk (PQ.th PQ.body))))) hS9 rfl rfl (fun w_ hS => (rd_cut3 (e := 5) (m := 1) (by kernel_rfl) (by kernel_rfl) rfl (.inl ⟨rfl, rfl⟩) rfl rfl (cut3_front Af f.b.length cf s1 1 (by omega)))) ?_
        refine gd_pure 14 rfl (by kernel_rfl) (PQ.bk (PQ.th (PQ.th (PQ.bk (PQ.th PQ.body))))) hS9 rfl rfl (Pp fb 0) (by kernel_rfl) ?_
        refine gd_pure 15 rfl (by kernel_rfl) (PQ.bk (PQ.th (PQ.th (PQ.bk (PQ.th PQ.body))))) hS9 rfl rfl (Pp fb 0) (by kernel_rfl) ?_
        refine gd_keep [(0, Pp db 0), (1, .slice Ak ks.length ck), (12, .slice A6 D.fs.length c7), (13, Ni D.fs.length), (14, Ni i), (65, .slice Af s1 s1), (67, Pp fb 0)] (by kernel_rfl) ?_
        refine gd_st 16 (by kernel_rfl) (st_storeK (v := .slice Af s1 s1) 0 rfl rfl rfl hH rfl rfl rfl (by kernel_rfl) rfl (by simp) ?_)
        clear hH; intro w44 hH
        replace hH : Hp w w44 _ _ [.blk fb 84 [.slice Af s1 s1, Ni s1], .vw (.slice Af f.b.length cf) 5 f.b, restO es2 (ixE es2 f.name), .blk db 70 [.map (some mb), .bool D.off, arV D.ar ab], .smap mb (kvE es2), .grp (armO D.ar ab), .row (.slice A6 D.fs.length c7) 9 1 D.fs.length (nmC D.fs)] := hH
        replace hS9 := hH.sublist (.cons _ (.cons_cons _ (.cons_cons _ (.cons_cons _ (.cons_cons _ (.cons_cons _ (.cons_cons _ (List.nil_sublist _))))))))
        refine ⟨hS9, ?_⟩
        refine gd_keep [(0, Pp db 0), (1, .slice Ak ks.length ck), (12, .slice A6 D.fs.length c7), (13, Ni D.fs.length), (14, Ni i)] (by kernel_rfl) ?_
        refine gd_done (by kernel_rfl) ?_
        refine at_sub [(0, Pp db 0), (1, .slice Ak ks.length ck), (12, .slice A6 D.fs.length c7), (13, Ni D.fs.length), (14, Ni i)] (Sub.of_eq (by kernel_rfl)) ?_
        refine bkN ?_
        refine sw_next ?_
        refine sw_region ?_
        refine gl_ops 1 [(0, Pp db 0), (1, .slice Ak ks.length ck), (12, .slice A6 D.fs.length c7), (13, Ni D.fs.length), (68, .int .i64 (IntKind.i64.wrap (((i : Nat) : Int) + 1)))] (by kernel_rfl) ?_
        refine gl_cv 68 (Ni (i + 1)) (cv_i64 (by omega)) rfl ?_
        refine gl_ops 1 [(0, Pp db 0), (1, .slice Ak ks.length ck), (12, .slice A6 D.fs.length c7), (13, Ni D.fs.length), (14, Ni (i + 1))] (by kernel_rfl) ?_
        refine gl_done rfl ?_
        refine rnd_end (g := (i, es2)) (i + 1, es2.set (ixE es2 f.name) ⟨f.name, fb, .slice Af s1 s1, f.b.take s1, s1⟩) (by kernel_rfl) ?_ ?_
        replace hH := hH.pick [1, 0, 2, 3, 4, 5, 6] (by kernel_rfl) (os' := [.vw (.slice Af f.b.length cf) 5 f.b, .blk fb 84 [.slice Af s1 s1, Ni s1], restO es2 (ixE es2 f.name), .blk db 70 [.map (some mb), .bool D.off, arV D.ar ab], .smap mb (kvE es2), .grp (armO D.ar ab), .row (.slice A6 D.fs.length c7) 9 1 D.fs.length (nmC D.fs)]) (by kernel_rfl)
        replace hH := hH.cut_vw s1 (by omega)
        replace hH := hH.pick [1, 0, 2, 3, 4, 5, 6] (by kernel_rfl) (os' := [.blk fb 84 [.slice Af s1 s1, Ni s1], .vw (.slice Af s1 s1) 5 (f.b.take s1), restO es2 (ixE es2 f.name), .blk db 70 [.map (some mb), .bool D.off, arV D.ar ab], .smap mb (kvE es2), .grp (armO D.ar ab), .row (.slice A6 D.fs.length c7) 9 1 D.fs.length (nmC D.fs)]) (by kernel_rfl)
        replace hH : Hp w w44 _ _ (f1O ⟨f.name, fb, .slice Af s1 s1, f.b.take s1, s1⟩ :: f2O ⟨f.name, fb, .slice Af s1 s1, f.b.take s1, s1⟩ :: restO es2 (ixE es2 f.name) :: [.blk db 70 [.map (some mb), .bool D.off, arV D.ar ab], .smap mb (kvE es2), .grp (armO D.ar ab), .row (.slice A6 D.fs.length c7) 9 1 D.fs.length (nmC D.fs)]) := hH
        replace hH := fil_in hlt hH
        have hkv : kvE es2 = kvE (es2.set (ixE es2 f.name) ⟨f.name, fb, .slice Af s1 s1, f.b.take s1, s1⟩) := (kvE_set (e' := ⟨f.name, fb, .slice Af s1 s1, f.b.take s1, s1⟩) he rfl rfl).symm
        replace hH := hH.cast (os' := [filsO (es2.set (ixE es2 f.name) ⟨f.name, fb, .slice Af s1 s1, f.b.take s1, s1⟩), .blk db 70 [.map (some mb), .bool D.off, arV D.ar ab], .smap mb (kvE (es2.set (ixE es2 f.name) ⟨f.name, fb, .slice Af s1 s1, f.b.take s1, s1⟩)), .grp (armO D.ar ab), .row (.slice A6 D.fs.length c7) 9 1 D.fs.length (nmC D.fs)]) (by rw [← hkv])
        replace hH := hH.pick [1, 2, 0, 3, 4] (by kernel_rfl) (os' := [.blk db 70 [.map (some mb), .bool D.off, arV D.ar ab], .smap mb (kvE (es2.set (ixE es2 f.name) ⟨f.name, fb, .slice Af s1 s1, f.b.take s1, s1⟩)), filsO (es2.set (ixE es2 f.name) ⟨f.name, fb, .slice Af s1 s1, f.b.take s1, s1⟩), .grp (armO D.ar ab), .row (.slice A6 D.fs.length c7) 9 1 D.fs.length (nmC D.fs)]) (by kernel_rfl)
        · exact ⟨by omega, part_rep hG.srt hR2 hf he ⟨f.name, fb, .slice Af s1 s1, f.b.take s1, s1⟩ rfl (by unfold startF1; rw [← hs1]; rfl), hH⟩
        · show D.fs.length - (i + 1) < D.fs.length - i; omega
      ·
        refine st_q rfl rfl rfl (rd_loadK 0 (by kernel_rfl) hH rfl rfl rfl) ?_
        refine ⟨hS9, ?_⟩
        refine gd_keep [(0, Pp db 0), (1, .slice Ak ks.length ck), (12, .slice A6 D.fs.length c7), (13, Ni D.fs.length), (14, Ni i), (52, Pp fb 0), (56, .slice Af f.b.length cf), (59, Pp fb 1), (64, Ni s1)] (by kernel_rfl) ?_
        refine gd_st 8 (by kernel_rfl) (st_q rfl rfl rfl (rd_loadK 0 (by kernel_rfl) hH rfl rfl rfl) ?_)
        refine ⟨hS9, ?_⟩
        refine gd_keep [(0, Pp db 0), (1, .slice Ak ks.length ck), (12, .slice A6 D.fs.length c7), (13, Ni D.fs.length), (14, Ni i), (52, Pp fb 0), (56, .slice Af f.b.length cf), (60, Ni s1), (64, Ni s1)] (by kernel_rfl) ?_
        refine gd_q 13 rfl (by kernel_rfl) (PQ.bk (PQ.th (PQ.th (PQ.bk (PQ.th PQ.body))))) hS9 rfl rfl (fun w_ hS => (rd_cut3 (e := 5) (m := 1) (by kernel_rfl) (by kernel_rfl) rfl (.inl ⟨rfl, rfl⟩) rfl rfl (cut3_front Af f.b.length cf s1 1 (by omega)))) ?_
        refine gd_pure 14 rfl (by kernel_rfl) (PQ.bk (PQ.th (PQ.th (PQ.bk (PQ.th PQ.body))))) hS9 rfl rfl (Pp fb 0) (by kernel_rfl) ?_
        refine gd_pure 15 rfl (by kernel_rfl) (PQ.bk (PQ.th (PQ.th (PQ.bk (PQ.th PQ.body))))) hS9 rfl rfl (Pp fb 0) (by kernel_rfl) ?_
        refine gd_keep [(0, Pp db 0), (1, .slice Ak ks.length ck), (12, .slice A6 D.fs.length c7), (13, Ni D.fs.length), (14, Ni i), (65, .slice Af s1 s1), (67, Pp fb 0)] (by kernel_rfl) ?_
        refine gd_st 16 (by kernel_rfl) (st_storeK (v := .slice Af s1 s1) 0 rfl rfl rfl hH rfl rfl rfl (by kernel_rfl) rfl (by simp) ?_)
        clear hH; intro w45 hH
        replace hH : Hp w w45 _ _ [.blk fb 84 [.slice Af s1 s1, Ni s1], .vw (.slice Af f.b.length cf) 5 f.b, restO es2 (ixE es2 f.name), .blk db 70 [.map (some mb), .bool D.off, arV D.ar ab], .smap mb (kvE es2), .grp (armO D.ar ab), .row (.slice A6 D.fs.length c7) 9 1 D.fs.length (nmC D.fs)] := hH
        replace hS9 := hH.sublist (.cons _ (.cons_cons _ (.cons_cons _ (.cons_cons _ (.cons_cons _ (.cons_cons _ (.cons_cons _ (List.nil_sublist _))))))))
        refine ⟨hS9, ?_⟩
        refine gd_keep [(0, Pp db 0), (1, .slice Ak ks.length ck), (12, .slice A6 D.fs.length c7), (13, Ni D.fs.length), (14, Ni i)] (by kernel_rfl) ?_
        refine gd_done (by kernel_rfl) ?_
        refine at_sub [(0, Pp db 0), (1, .slice Ak ks.length ck), (12, .slice A6 D.fs.length c7), (13, Ni D.fs.length), (14, Ni i)] (Sub.of_eq (by kernel_rfl)) ?_
        refine bkN ?_
        refine sw_next ?_
        refine sw_region ?_
        refine gl_ops 1 [(0, Pp db 0), (1, .slice Ak ks.length ck), (12, .slice A6 D.fs.length c7), (13, Ni D.fs.length), (68, .int .i64 (IntKind.i64.wrap (((i : Nat) : Int) + 1)))] (by kernel_rfl) ?_
        refine gl_cv 68 (Ni (i + 1)) (cv_i64 (by omega)) rfl ?_
        refine gl_ops 1 [(0, Pp db 0), (1, .slice Ak ks.length ck), (12, .slice A6 D.fs.length c7), (13, Ni D.fs.length), (14, Ni (i + 1))] (by kernel_rfl) ?_
        refine gl_done rfl ?_
        refine rnd_end (g := (i, es2)) (i + 1, es2.set (ixE es2 f.name) ⟨f.name, fb, .slice Af s1 s1, f.b.take s1, s1⟩) (by kernel_rfl) ?_ ?_
        replace hH := hH.pick [1, 0, 2, 3, 4, 5, 6] (by kernel_rfl) (os' := [.vw (.slice Af f.b.length cf) 5 f.b, .blk fb 84 [.slice Af s1 s1, Ni s1], restO es2 (ixE es2 f.name), .blk db 70 [.map (some mb), .bool D.off, arV D.ar ab], .smap mb (kvE es2), .grp (armO D.ar ab), .row (.slice A6 D.fs.length c7) 9 1 D.fs.length (nmC D.fs)]) (by kernel_rfl)
        replace hH := hH.cut_vw s1 (by omega)
        replace hH := hH.pick [1, 0, 2, 3, 4, 5, 6] (by kernel_rfl) (os' := [.blk fb 84 [.slice Af s1 s1, Ni s1], .vw (.slice Af s1 s1) 5 (f.b.take s1), restO es2 (ixE es2 f.name), .blk db 70 [.map (some mb), .bool D.off, arV D.ar ab], .smap mb (kvE es2), .grp (armO D.ar ab), .row (.slice A6 D.fs.length c7) 9 1 D.fs.length (nmC D.fs)]) (by kernel_rfl)
        replace hH : Hp w w45 _ _ (f1O ⟨f.name, fb, .slice Af s1 s1, f.b.take s1, s1⟩ :: f2O ⟨f.name, fb, .slice Af s1 s1, f.b.take s1, s1⟩ :: restO es2 (ixE es2 f.name) :: [.blk db 70 [.map (some mb), .bool D.off, arV D.ar ab], .smap mb (kvE es2), .grp (armO D.ar ab), .row (.slice A6 D.fs.length c7) 9 1 D.fs.length (nmC D.fs)]) := hH
        replace hH := fil_in hlt hH
        have hkv : kvE es2 = kvE (es2.set (ixE es2 f.name) ⟨f.name, fb, .slice Af s1 s1, f.b.take s1, s1⟩) := (kvE_set (e' := ⟨f.name, fb, .slice Af s1 s1, f.b.take s1, s1⟩) he rfl rfl).symm
        replace hH := hH.cast (os' := [filsO (es2.set (ixE es2 f.name) ⟨f.name, fb, .slice Af s1 s1, f.b.take s1, s1⟩), .blk db 70 [.map (some mb), .bool D.off, arV D.ar ab], .smap mb (kvE (es2.set (ixE es2 f.name) ⟨f.name, fb, .slice Af s1 s1, f.b.take s1, s1⟩)), .grp (armO D.ar ab), .row (.slice A6 D.fs.length c7) 9 1 D.fs.length (nmC D.fs)]) (by rw [← hkv])
        replace hH := hH.pick [1, 2, 0, 3, 4] (by kernel_rfl) (os' := [.blk db 70 [.map (some mb), .bool D.off, arV D.ar ab], .smap mb (kvE (es2.set (ixE es2 f.name) ⟨f.name, fb, .slice Af s1 s1, f.b.take s1, s1⟩)), filsO (es2.set (ixE es2 f.name) ⟨f.name, fb, .slice Af s1 s1, f.b.take s1, s1⟩), .grp (armO D.ar ab), .row (.slice A6 D.fs.length c7) 9 1 D.fs.length (nmC D.fs)]) (by kernel_rfl)
        · exact ⟨by omega, part_rep hG.srt hR2 hf he ⟨f.name, fb, .slice Af s1 s1, f.b.take s1, s1⟩ rfl (by unfold startF1; rw [← hs1]; rfl), hH⟩
        · show D.fs.length - (i + 1) < D.fs.length - i; omega
    ·
      refine st_q rfl rfl rfl (rd_loadK 0 (by kernel_rfl) hH rfl rfl rfl) ?_
      refine ⟨hS9, ?_⟩
      refine gd_keep [(0, Pp db 0), (1, .slice Ak ks.length ck), (12, .slice A6 D.fs.length c7), (13, Ni D.fs.length), (14, Ni i), (52, Pp fb 0), (55, Pp fb 0), (60, Ni s1), (63, Pp fb 1)] (by kernel_rfl) ?_
      refine gd_st2 4 12 (by kernel_rfl) ?_ ?_
      ·
        refine st_q rfl rfl rfl (rd_loadK 0 (by kernel_rfl) hH rfl rfl rfl) ?_
        refine ⟨hS9, ?_⟩
        refine gd_keep [(0, Pp db 0), (1, .slice Ak ks.length ck), (12, .slice A6 D.fs.length c7), (13, Ni D.fs.length), (14, Ni i), (52, Pp fb 0), (56, .slice Af f.b.length cf), (60, Ni s1), (63, Pp fb 1)] (by kernel_rfl) ?_
        refine gd_st 12 (by kernel_rfl) (st_q rfl rfl rfl (rd_loadK 0 (by kernel_rfl) hH rfl rfl rfl) ?_)
        refine ⟨hS9, ?_⟩
        refine gd_keep [(0, Pp db 0), (1, .slice Ak ks.length ck), (12, .slice A6 D.fs.length c7), (13, Ni D.fs.length), (14, Ni i), (52, Pp fb 0), (56, .slice Af f.b.length cf), (60, Ni s1), (64, Ni s1)] (by kernel_rfl) ?_
        refine gd_q 13 rfl (by kernel_rfl) (PQ.bk (PQ.th (PQ.th (PQ.bk (PQ.th PQ.body))))) hS9 rfl rfl (fun w_ hS => (rd_cut3 (e := 5) (m := 1) (by kernel_rfl) (by kernel_rfl) rfl (.inl ⟨rfl, rfl⟩) rfl rfl (cut3_front Af f.b.length cf s1 1 (by omega)))) ?_
        refine gd_pure 14 rfl (by kernel_rfl) (PQ.bk (PQ.th (PQ.th (PQ.bk (PQ.th PQ.body))))) hS9 rfl rfl (Pp fb 0) (by kernel_rfl) ?_
        refine gd_pure 15 rfl (by kernel_rfl) (PQ.bk (PQ.th (PQ.th (PQ.bk (PQ.th PQ.body))))) hS9 rfl rfl (Pp fb 0) (by kernel_rfl) ?_
        refine gd_keep [(0, Pp db 0), (1, .slice Ak ks.length ck), (12, .slice A6 D.fs.length c7), (13, Ni D.fs.length), (14, Ni i), (65, .slice Af s1 s1), (67, Pp fb 0)] (by kernel_rfl) ?_
        refine gd_st 16 (by kernel_rfl) (st_storeK (v := .slice Af s1 s1) 0 rfl rfl rfl hH rfl rfl rfl (by kernel_rfl) rfl (by simp) ?_)
        clear hH; intro w46 hH
        replace hH : Hp w w46 _ _ [.blk fb 84 [.slice Af s1 s1, Ni s1], .vw (.slice Af f.b.length cf) 5 f.b, restO es2 (ixE es2 f.name), .blk db 70 [.map (some mb), .bool D.off, arV D.ar ab], .smap mb (kvE es2), .grp (armO D.ar ab), .row (.slice A6 D.fs.length c7) 9 1 D.fs.length (nmC D.fs)] := hH
        replace hS9 := hH.sublist (.cons _ (.cons_cons _ (.cons_cons _ (.cons_cons _ (.cons_cons _ (.cons_cons _ (.cons_cons _ (List.nil_sublist _))))))))
        refine ⟨hS9, ?_⟩
        refine gd_keep [(0, Pp db 0), (1, .slice Ak ks.length ck), (12, .slice A6 D.fs.length c7), (13, Ni D.fs.length), (14, Ni i)] (by kernel_rfl) ?_
        refine gd_done (by kernel_rfl) ?_
        refine at_sub [(0, Pp db 0), (1, .slice Ak ks.length ck), (12, .slice A6 D.fs.length c7), (13, Ni D.fs.length), (14, Ni i)] (Sub.of_eq (by kernel_rfl)) ?_
        refine bkN ?_
        refine sw_next ?_
        refine sw_region ?_
        refine gl_ops 1 [(0, Pp db 0), (1, .slice Ak ks.length ck), (12, .slice A6 D.fs.length c7), (13, Ni D.fs.length), (68, .int .i64 (IntKind.i64.wrap (((i : Nat) : Int) + 1)))] (by kernel_rfl) ?_
        refine gl_cv 68 (Ni (i + 1)) (cv_i64 (by omega)) rfl ?_
        refine gl_ops 1 [(0, Pp db 0), (1, .slice Ak ks.length ck), (12, .slice A6 D.fs.length c7), (13, Ni D.fs.length), (14, Ni (i + 1))] (by kernel_rfl) ?_
        refine gl_done rfl ?_
        refine rnd_end (g := (i, es2)) (i + 1, es2.set (ixE es2 f.name) ⟨f.name, fb, .slice Af s1 s1, f.b.take s1, s1⟩) (by kernel_rfl) ?_ ?_
        replace hH := hH.pick [1, 0, 2, 3, 4, 5, 6] (by kernel_rfl) (os' := [.vw (.slice Af f.b.length cf) 5 f.b, .blk fb 84 [.slice Af s1 s1, Ni s1], restO es2 (ixE es2 f.name), .blk db 70 [.map (some mb), .bool D.off, arV D.ar ab], .smap mb (kvE es2), .grp (armO D.ar ab), .row (.slice A6 D.fs.length c7) 9 1 D.fs.length (nmC D.fs)]) (by kernel_rfl)
        replace hH := hH.cut_vw s1 (by omega)
        replace hH := hH.pick [1, 0, 2, 3, 4, 5, 6] (by kernel_rfl) (os' := [.blk fb 84 [.slice Af s1 s1, Ni s1], .vw (.slice Af s1 s1) 5 (f.b.take s1), restO es2 (ixE es2 f.name), .blk db 70 [.map (some mb), .bool D.off, arV D.ar ab], .smap mb (kvE es2), .grp (armO D.ar ab), .row (.slice A6 D.fs.length c7) 9 1 D.fs.length (nmC D.fs)]) (by kernel_rfl)
        replace hH : Hp w w46 _ _ (f1O ⟨f.name, fb, .slice Af s1 s1, f.b.take s1, s1⟩ :: f2O ⟨f.name, fb, .slice Af s1 s1, f.b.take s1, s1⟩ :: restO es2 (ixE es2 f.name) :: [.blk db 70 [.map (some mb), .bool D.off, arV D.ar ab], .smap mb (kvE es2), .grp (armO D.ar ab), .row (.slice A6 D.fs.length c7) 9 1 D.fs.length (nmC D.fs)]) := hH
        replace hH := fil_in hlt hH
        have hkv : kvE es2 = kvE (es2.set (ixE es2 f.name) ⟨f.name, fb, .slice Af s1 s1, f.b.take s1, s1⟩) := (kvE_set (e' := ⟨f.name, fb, .slice Af s1 s1, f.b.take s1, s1⟩) he rfl rfl).symm
        replace hH := hH.cast (os' := [filsO (es2.set (ixE es2 f.name) ⟨f.name, fb, .slice Af s1 s1, f.b.take s1, s1⟩), .blk db 70 [.map (some mb), .bool D.off, arV D.ar ab], .smap mb (kvE (es2.set (ixE es2 f.name) ⟨f.name, fb, .slice Af s1 s1, f.b.take s1, s1⟩)), .grp (armO D.ar ab), .row (.slice A6 D.fs.length c7) 9 1 D.fs.length (nmC D.fs)]) (by rw [← hkv])
        replace hH := hH.pick [1, 2, 0, 3, 4] (by kernel_rfl) (os' := [.blk db 70 [.map (some mb), .bool D.off, arV D.ar ab], .smap mb (kvE (es2.set (ixE es2 f.name) ⟨f.name, fb, .slice Af s1 s1, f.b.take s1, s1⟩)), filsO (es2.set (ixE es2 f.name) ⟨f.name, fb, .slice Af s1 s1, f.b.take s1, s1⟩), .grp (armO D.ar ab), .row (.slice A6 D.fs.length c7) 9 1 D.fs.length (nmC D.fs)]) (by kernel_rfl)
        · exact ⟨by omega, part_rep hG.srt hR2 hf he ⟨f.name, fb, .slice Af s1 s1, f.b.take s1, s1⟩ rfl (by unfold startF1; rw [← hs1]; rfl), hH⟩
        · show D.fs.length - (i + 1) < D.fs.length - i; omega
      ·
        refine st_q rfl rfl rfl (rd_loadK 0 (by kernel_rfl) hH rfl rfl rfl) ?_
        refine ⟨hS9, ?_⟩
        refine gd_keep [(0, Pp db 0), (1, .slice Ak ks.length ck), (12, .slice A6 D.fs.length c7), (13, Ni D.fs.length), (14, Ni i), (52, Pp fb 0), (55, Pp fb 0), (60, Ni s1), (64, Ni s1)] (by kernel_rfl) ?_
        refine gd_st 4 (by kernel_rfl) (st_q rfl rfl rfl (rd_loadK 0 (by kernel_rfl) hH rfl rfl rfl) ?_)
        refine ⟨hS9, ?_⟩
        refine gd_keep [(0, Pp db 0), (1, .slice Ak ks.length ck), (12, .slice A6 D.fs.length c7), (13, Ni D.fs.length), (14, Ni i), (52, Pp fb 0), (56, .slice Af f.b.length cf), (60, Ni s1), (64, Ni s1)] (by kernel_rfl) ?_
        refine gd_q 13 rfl (by kernel_rfl) (PQ.bk (PQ.th (PQ.th (PQ.bk (PQ.th PQ.body))))) hS9 rfl rfl (fun w_ hS => (rd_cut3 (e := 5) (m := 1) (by kernel_rfl) (by kernel_rfl) rfl (.inl ⟨rfl, rfl⟩) rfl rfl (cut3_front Af f.b.length cf s1 1 (by omega)))) ?_
        refine gd_pure 14 rfl (by kernel_rfl) (PQ.bk (PQ.th (PQ.th (PQ.bk (PQ.th PQ.body))))) hS9 rfl rfl (Pp fb 0) (by kernel_rfl) ?_
        refine gd_pure 15 rfl (by kernel_rfl) (PQ.bk (PQ.th (PQ.th (PQ.bk (PQ.th PQ.body))))) hS9 rfl rfl (Pp fb 0) (by kernel_rfl) ?_
        refine gd_keep [(0, Pp db 0), (1, .slice Ak ks.length ck), (12, .slice A6 D.fs.length c7), (13, Ni D.fs.length), (14, Ni i), (65, .slice Af s1 s1), (67, Pp fb 0)] (by kernel_rfl) ?_
        refine gd_st 16 (by kernel_rfl) (st_storeK (v := .slice Af s1 s1) 0 rfl rfl rfl hH rfl rfl rfl (by kernel_rfl) rfl (by simp) ?_)
        clear hH; intro w47 hH
        replace hH : Hp w w47 _ _ [.blk fb 84 [.slice Af s1 s1, Ni s1], .vw (.slice Af f.b.length cf) 5 f.b, restO es2 (ixE es2 f.name), .blk db 70 [.map (some mb), .bool D.off, arV D.ar ab], .smap mb (kvE es2), .grp (armO D.ar ab), .row (.slice A6 D.fs.length c7) 9 1 D.fs.length (nmC D.fs)] := hH
        replace hS9 := hH.sublist (.cons _ (.cons_cons _ (.cons_cons _ (.cons_cons _ (.cons_cons _ (.cons_cons _ (.cons_cons _ (List.nil_sublist _))))))))
        refine ⟨hS9, ?_⟩
        refine gd_keep [(0, Pp db 0), (1, .slice Ak ks.length ck), (12, .slice A6 D.fs.length c7), (13, Ni D.fs.length), (14, Ni i)] (by kernel_rfl) ?_
        refine gd_done (by kernel_rfl) ?_
        refine at_sub [(0, Pp db 0), (1, .slice Ak ks.length ck), (12, .slice A6 D.fs.length c7), (13, Ni D.fs.length), (14, Ni i)] (Sub.of_eq (by kernel_rfl)) ?_
        refine bkN ?_
        refine sw_next ?_
        refine sw_region ?_
        refine gl_ops 1 [(0, Pp db 0), (1, .slice Ak ks.length ck), (12, .slice A6 D.fs.length c7), (13, Ni D.fs.length), (68, .int .i64 (IntKind.i64.wrap (((i : Nat) : Int) + 1)))] (by kernel_rfl) ?_
        refine gl_cv 68 (Ni (i + 1)) (cv_i64 (by omega)) rfl ?_
        refine gl_ops 1 [(0, Pp db 0), (1, .slice Ak ks.length ck), (12, .slice A6 D.fs.length c7), (13, Ni D.fs.length), (14, Ni (i + 1))] (by kernel_rfl) ?_
        refine gl_done rfl ?_
        refine rnd_end (g := (i, es2)) (i + 1, es2.set (ixE es2 f.name) ⟨f.name, fb, .slice Af s1 s1, f.b.take s1, s1⟩) (by kernel_rfl) ?_ ?_
        replace hH := hH.pick [1, 0, 2, 3, 4, 5, 6] (by kernel_rfl) (os' := [.vw (.slice Af f.b.length cf) 5 f.b, .blk fb 84 [.slice Af s1 s1, Ni s1], restO es2 (ixE es2 f.name), .blk db 70 [.map (some mb), .bool D.off, arV D.ar ab], .smap mb (kvE es2), .grp (armO D.ar ab), .row (.slice A6 D.fs.length c7) 9 1 D.fs.length (nmC D.fs)]) (by kernel_rfl)
        replace hH := hH.cut_vw s1 (by omega)
        replace hH := hH.pick [1, 0, 2, 3, 4, 5, 6] (by kernel_rfl) (os' := [.blk fb 84 [.slice Af s1 s1, Ni s1], .vw (.slice Af s1 s1) 5 (f.b.take s1), restO es2 (ixE es2 f.name), .blk db 70 [.map (some mb), .bool D.off, arV D.ar ab], .smap mb (kvE es2), .grp (armO D.ar ab), .row (.slice A6 D.fs.length c7) 9 1 D.fs.length (nmC D.fs)]) (by kernel_rfl)
        replace hH : Hp w w47 _ _ (f1O ⟨f.name, fb, .slice Af s1 s1, f.b.take s1, s1⟩ :: f2O ⟨f.name, fb, .slice Af s1 s1, f.b.take s1, s1⟩ :: restO es2 (ixE es2 f.name) :: [.blk db 70 [.map (some mb), .bool D.off, arV D.ar ab], .smap mb (kvE es2), .grp (armO D.ar ab), .row (.slice A6 D.fs.length c7) 9 1 D.fs.length (nmC D.fs)]) := hH
        replace hH := fil_in hlt hH
        have hkv : kvE es2 = kvE (es2.set (ixE es2 f.name) ⟨f.name, fb, .slice Af s1 s1, f.b.take s1, s1⟩) := (kvE_set (e' := ⟨f.name, fb, .slice Af s1 s1, f.b.take s1, s1⟩) he rfl rfl).symm
        replace hH := hH.cast (os' := [filsO (es2.set (ixE es2 f.name) ⟨f.name, fb, .slice Af s1 s1, f.b.take s1, s1⟩), .blk db 70 [.map (some mb), .bool D.off, arV D.ar ab], .smap mb (kvE (es2.set (ixE es2 f.name) ⟨f.name, fb, .slice Af s1 s1, f.b.take s1, s1⟩)), .grp (armO D.ar ab), .row (.slice A6 D.fs.length c7) 9 1 D.fs.length (nmC D.fs)]) (by rw [← hkv])
        replace hH := hH.pick [1, 2, 0, 3, 4] (by kernel_rfl) (os' := [.blk db 70 [.map (some mb), .bool D.off, arV D.ar ab], .smap mb (kvE (es2.set (ixE es2 f.name) ⟨f.name, fb, .slice Af s1 s1, f.b.take s1, s1⟩)), filsO (es2.set (ixE es2 f.name) ⟨f.name, fb, .slice Af s1 s1, f.b.take s1, s1⟩), .grp (armO D.ar ab), .row (.slice A6 D.fs.length c7) 9 1 D.fs.length (nmC D.fs)]) (by kernel_rfl)
        · exact ⟨by omega, part_rep hG.srt hR2 hf he ⟨f.name, fb, .slice Af s1 s1, f.b.take s1, s1⟩ rfl (by unfold startF1; rw [← hs1]; rfl), hH⟩
        · show D.fs.length - (i + 1) < D.fs.length - i; omega
    ·
      refine st_q rfl rfl rfl (rd_loadK 0 (by kernel_rfl) hH rfl rfl rfl) ?_
      refine ⟨hS9, ?_⟩
      refine gd_keep [(0, Pp db 0), (1, .slice Ak ks.length ck), (12, .slice A6 D.fs.length c7), (13, Ni D.fs.length), (14, Ni i), (52, Pp fb 0), (55, Pp fb 0), (59, Pp fb 1), (64, Ni s1)] (by kernel_rfl) ?_
      refine gd_st2 4 8 (by kernel_rfl) ?_ ?_
      ·
        refine st_q rfl rfl rfl (rd_loadK 0 (by kernel_rfl) hH rfl rfl rfl) ?_
        refine ⟨hS9, ?_⟩
        refine gd_keep [(0, Pp db 0), (1, .slice Ak ks.length ck), (12, .slice A6 D.fs.length c7), (13, Ni D.fs.length), (14, Ni i), (52, Pp fb 0), (56, .slice Af f.b.length cf), (59, Pp fb 1), (64, Ni s1)] (by kernel_rfl) ?_
        refine gd_st 8 (by kernel_rfl) (st_q rfl rfl rfl (rd_loadK 0 (by kernel_rfl) hH rfl rfl rfl) ?_)
        refine ⟨hS9, ?_⟩
        refine gd_keep [(0, Pp db 0), (1, .slice Ak ks.length ck), (12, .slice A6 D.fs.length c7), (13, Ni D.fs.length), (14, Ni i), (52, Pp fb 0), (56, .slice Af f.b.length cf), (60, Ni s1), (64, Ni s1)] (by kernel_rfl) ?_
        refine gd_q 13 rfl (by kernel_rfl) (PQ.bk (PQ.th (PQ.th (PQ.bk (PQ.th PQ.body))))) hS9 rfl rfl (fun w_ hS => (rd_cut3 (e := 5) (m := 1) (by kernel_rfl) (by kernel_rfl) rfl (.inl ⟨rfl, rfl⟩) rfl rfl (cut3_front Af f.b.length cf s1 1 (by omega)))) ?_
        refine gd_pure 14 rfl (by kernel_rfl) (PQ.bk (PQ.th (PQ.th (PQ.bk (PQ.th PQ.body))))) hS9 rfl rfl (Pp fb 0) (by kernel_rfl) ?_
        refine gd_pure 15 rfl (by kernel_rfl) (PQ.bk (PQ.th (PQ.th (PQ.bk (PQ.th PQ.body))))) hS9 rfl rfl (Pp fb 0) (by kernel_rfl) ?_
        refine gd_keep [(0, Pp db 0), (1, .slice Ak ks.length ck), (12, .slice A6 D.fs.length c7), (13, Ni D.fs.length), (14, Ni i), (65, .slice Af s1 s1), (67, Pp fb 0)] (by kernel_rfl) ?_
        refine gd_st 16 (by kernel_rfl) (st_storeK (v := .slice Af s1 s1) 0 rfl rfl rfl hH rfl rfl rfl (by kernel_rfl) rfl (by simp) ?_)
        clear hH; intro w48 hH
        replace hH : Hp w w48 _ _ [.blk fb 84 [.slice Af s1 s1, Ni s1], .vw (.slice Af f.b.length cf) 5 f.b, restO es2 (ixE es2 f.name), .blk db 70 [.map (some mb), .bool D.off, arV D.ar ab], .smap mb (kvE es2), .grp (armO D.ar ab), .row (.slice A6 D.fs.length c7) 9 1 D.fs.length (nmC D.fs)] := hH
        replace hS9 := hH.sublist (.cons _ (.cons_cons _ (.cons_cons _ (.cons_cons _ (.cons_cons _ (.cons_cons _ (.cons_cons _ (List.nil_sublist _))))))))
        refine ⟨hS9, ?_⟩
        refine gd_keep [(0, Pp db 0), (1, .slice Ak ks.length ck), (12, .slice A6 D.fs.length c7), (13, Ni D.fs.length), (14, Ni i)] (by kernel_rfl) ?_
        refine gd_done (by kernel_rfl) ?_
        refine at_sub [(0, Pp db 0), (1, .slice Ak ks.length ck), (12, .slice A6 D.fs.length c7), (13, Ni D.fs.length), (14, Ni i)] (Sub.of_eq (by kernel_rfl)) ?_
        refine bkN ?_
        refine sw_next ?_
        refine sw_region ?_
        refine gl_ops 1 [(0, Pp db 0), (1, .slice Ak ks.length ck), (12, .slice A6 D.fs.length c7), (13, Ni D.fs.length), (68, .int .i64 (IntKind.i64.wrap (((i : Nat) : Int) + 1)))] (by kernel_rfl) ?_
        refine gl_cv 68 (Ni (i + 1)) (cv_i64 (by omega)) rfl ?_
        refine gl_ops 1 [(0, Pp db 0), (1, .slice Ak ks.length ck), (12, .slice A6 D.fs.length c7), (13, Ni D.fs.length), (14, Ni (i + 1))] (by kernel_rfl) ?_
        refine gl_done rfl ?_
        refine rnd_end (g := (i, es2)) (i + 1, es2.set (ixE es2 f.name) ⟨f.name, fb, .slice Af s1 s1, f.b.take s1, s1⟩) (by kernel_rfl) ?_ ?_
        replace hH := hH.pick [1, 0, 2, 3, 4, 5, 6] (by kernel_rfl) (os' := [.vw (.slice Af f.b.length cf) 5 f.b, .blk fb 84 [.slice Af s1 s1, Ni s1], restO es2 (ixE es2 f.name), .blk db 70 [.map (some mb), .bool D.off, arV D.ar ab], .smap mb (kvE es2), .grp (armO D.ar ab), .row (.slice A6 D.fs.length c7) 9 1 D.fs.length (nmC D.fs)]) (by kernel_rfl)
        replace hH := hH.cut_vw s1 (by omega)
        replace hH := hH.pick [1, 0, 2, 3, 4, 5, 6] (by kernel_rfl) (os' := [.blk fb 84 [.slice Af s1 s1, Ni s1], .vw (.slice Af s1 s1) 5 (f.b.take s1), restO es2 (ixE es2 f.name), .blk db 70 [.map (some mb), .bool D.off, arV D.ar ab], .smap mb (kvE es2), .grp (armO D.ar ab), .row (.slice A6 D.fs.length c7) 9 1 D.fs.length (nmC D.fs)]) (by kernel_rfl)
        replace hH : Hp w w48 _ _ (f1O ⟨f.name, fb, .slice Af s1 s1, f.b.take s1, s1⟩ :: f2O ⟨f.name, fb, .slice Af s1 s1, f.b.take s1, s1⟩ :: restO es2 (ixE es2 f.name) :: [.blk db 70 [.map (some mb), .bool D.off, arV D.ar ab], .smap mb (kvE es2), .grp (armO D.ar ab), .row (.slice A6 D.fs.length c7) 9 1 D.fs.length (nmC D.fs)]) := hH
        replace hH := fil_in hlt hH
        have hkv : kvE es2 = kvE (es2.set (ixE es2 f.name) ⟨f.name, fb, .slice Af s1 s1, f.b.take s1, s1⟩) := (kvE_set (e' := ⟨f.name, fb, .slice Af s1 s1, f.b.take s1, s1⟩) he rfl rfl).symm
        replace hH := hH.cast (os' := [filsO (es2.set (ixE es2 f.name) ⟨f.name, fb, .slice Af s1 s1, f.b.take s1, s1⟩), .blk db 70 [.map (some mb), .bool D.off, arV D.ar ab], .smap mb (kvE (es2.set (ixE es2 f.name) ⟨f.name, fb, .slice Af s1 s1, f.b.take s1, s1⟩)), .grp (armO D.ar ab), .row (.slice A6 D.fs.length c7) 9 1 D.fs.length (nmC D.fs)]) (by rw [← hkv])
        replace hH := hH.pick [1, 2, 0, 3, 4] (by kernel_rfl) (os' := [.blk db 70 [.map (some mb), .bool D.off, arV D.ar ab], .smap mb (kvE (es2.set (ixE es2 f.name) ⟨f.name, fb, .slice Af s1 s1, f.b.take s1, s1⟩)), filsO (es2.set (ixE es2 f.name) ⟨f.name, fb, .slice Af s1 s1, f.b.take s1, s1⟩), .grp (armO D.ar ab), .row (.slice A6 D.fs.length c7) 9 1 D.fs.length (nmC D.fs)]) (by kernel_rfl)
        · exact ⟨by omega, part_rep hG.srt hR2 hf he ⟨f.name, fb, .slice Af s1 s1, f.b.take s1, s1⟩ rfl (by unfold startF1; rw [← hs1]; rfl), hH⟩
        · show D.fs.length - (i + 1) < D.fs.length - i; omega
      ·
        refine st_q rfl rfl rfl (rd_loadK 0 (by kernel_rfl) hH rfl rfl rfl) ?_
        refine ⟨hS9, ?_⟩
        refine gd_keep [(0, Pp db 0), (1, .slice Ak ks.length ck), (12, .slice A6 D.fs.length c7), (13, Ni D.fs.length), (14, Ni i), (52, Pp fb 0), (55, Pp fb 0), (60, Ni s1), (64, Ni s1)] (by kernel_rfl) ?_
        refine gd_st 4 (by kernel_rfl) (st_q rfl rfl rfl (rd_loadK 0 (by kernel_rfl) hH rfl rfl rfl) ?_)
        refine ⟨hS9, ?_⟩
        refine gd_keep [(0, Pp db 0), (1, .slice Ak ks.length ck), (12, .slice A6 D.fs.length c7), (13, Ni D.fs.length), (14, Ni i), (52, Pp fb 0), (56, .slice Af f.b.length cf), (60, Ni s1), (64, Ni s1)] (by kernel_rfl) ?_
        refine gd_q 13 rfl (by kernel_rfl) (PQ.bk (PQ.th (PQ.th (PQ.bk (PQ.th PQ.body))))) hS9 rfl rfl (fun w_ hS => (rd_cut3 (e := 5) (m := 1) (by kernel_rfl) (by kernel_rfl) rfl (.inl ⟨rfl, rfl⟩) rfl rfl (cut3_front Af f.b.length cf s1 1 (by omega)))) ?_
        refine gd_pure 14 rfl (by kernel_rfl) (PQ.bk (PQ.th (PQ.th (PQ.bk (PQ.th PQ.body))))) hS9 rfl rfl (Pp fb 0) (by kernel_rfl) ?_
        refine gd_pure 15 rfl (by kernel_rfl) (PQ.bk (PQ.th (PQ.th (PQ.bk (PQ.th PQ.body))))) hS9 rfl rfl (Pp fb 0) (by kernel_rfl) ?_
        refine gd_keep [(0, Pp db 0), (1, .slice Ak ks.length ck), (12, .slice A6 D.fs.length c7), (13, Ni D.fs.length), (14, Ni i), (65, .slice Af s1 s1), (67, Pp fb 0)] (by kernel_rfl) ?_
        refine gd_st 16 (by kernel_rfl) (st_storeK (v := .slice Af s1 s1) 0 rfl rfl rfl hH rfl rfl rfl (by kernel_rfl) rfl (by simp) ?_)
        clear hH; intro w49 hH
        replace hH : Hp w w49 _ _ [.blk fb 84 [.slice Af s1 s1, Ni s1], .vw (.slice Af f.b.length cf) 5 f.b, restO es2 (ixE es2 f.name), .blk db 70 [.map (some mb), .bool D.off, arV D.ar ab], .smap mb (kvE es2), .grp (armO D.ar ab), .row (.slice A6 D.fs.length c7) 9 1 D.fs.length (nmC D.fs)] := hH
        replace hS9 := hH.sublist (.cons _ (.cons_cons _ (.cons_cons _ (.cons_cons _ (.cons_cons _ (.cons_cons _ (.cons_cons _ (List.nil_sublist _))))))))
        refine ⟨hS9, ?_⟩
        refine gd_keep [(0, Pp db 0), (1, .slice Ak ks.length ck), (12, .slice A6 D.fs.length c7), (13, Ni D.fs.length), (14, Ni i)] (by kernel_rfl) ?_
        refine gd_done (by kernel_rfl) ?_
        refine at_sub [(0, Pp db 0), (1, .slice Ak ks.length ck), (12, .slice A6 D.fs.length c7), (13, Ni D.fs.length), (14, Ni i)] (Sub.of_eq (by kernel_rfl)) ?_
        refine bkN ?_
        refine sw_next ?_
        refine sw_region ?_
        refine gl_ops 1 [(0, Pp db 0), (1, .slice Ak ks.length ck), (12, .slice A6 D.fs.length c7), (13, Ni D.fs.length), (68, .int .i64 (IntKind.i64.wrap (((i : Nat) : Int) + 1)))] (by kernel_rfl) ?_
        refine gl_cv 68 (Ni (i + 1)) (cv_i64 (by omega)) rfl ?_
        refine gl_ops 1 [(0, Pp db 0), (1, .slice Ak ks.length ck), (12, .slice A6 D.fs.length c7), (13, Ni D.fs.length), (14, Ni (i + 1))] (by kernel_rfl) ?_
        refine gl_done rfl ?_
        refine rnd_end (g := (i, es2)) (i + 1, es2.set (ixE es2 f.name) ⟨f.name, fb, .slice Af s1 s1, f.b.take s1, s1⟩) (by kernel_rfl) ?_ ?_
        replace hH := hH.pick [1, 0, 2, 3, 4, 5, 6] (by kernel_rfl) (os' := [.vw (.slice Af f.b.length cf) 5 f.b, .blk fb 84 [.slice Af s1 s1, Ni s1], restO es2 (ixE es2 f.name), .blk db 70 [.map (some mb), .bool D.off, arV D.ar ab], .smap mb (kvE es2), .grp (armO D.ar ab), .row (.slice A6 D.fs.length c7) 9 1 D.fs.length (nmC D.fs)]) (by kernel_rfl)
        replace hH := hH.cut_vw s1 (by omega)
        replace hH := hH.pick [1, 0, 2, 3, 4, 5, 6] (by kernel_rfl) (os' := [.blk fb 84 [.slice Af s1 s1, Ni s1], .vw (.slice Af s1 s1) 5 (f.b.take s1), restO es2 (ixE es2 f.name), .blk db 70 [.map (some mb), .bool D.off, arV D.ar ab], .smap mb (kvE es2), .grp (armO D.ar ab), .row (.slice A6 D.fs.length c7) 9 1 D.fs.length (nmC D.fs)]) (by kernel_rfl)
        replace hH : Hp w w49 _ _ (f1O ⟨f.name, fb, .slice Af s1 s1, f.b.take s1, s1⟩ :: f2O ⟨f.name, fb, .slice Af s1 s1, f.b.take s1, s1⟩ :: restO es2 (ixE es2 f.name) :: [.blk db 70 [.map (some mb), .bool D.off, arV D.ar ab], .smap mb (kvE es2), .grp (armO D.ar ab), .row (.slice A6 D.fs.length c7) 9 1 D.fs.length (nmC D.fs)]) := hH
        replace hH := fil_in hlt hH
        have hkv : kvE es2 = kvE (es2.set (ixE es2 f.name) ⟨f.name, fb, .slice Af s1 s1, f.b.take s1, s1⟩) := (kvE_set (e' := ⟨f.name, fb, .slice Af s1 s1, f.b.take s1, s1⟩) he rfl rfl).symm
        replace hH := hH.cast (os' := [filsO (es2.set (ixE es2 f.name) ⟨f.name, fb, .slice Af s1 s1, f.b.take s1, s1⟩), .blk db 70 [.map (some mb), .bool D.off, arV D.ar ab], .smap mb (kvE (es2.set (ixE es2 f.name) ⟨f.name, fb, .slice Af s1 s1, f.b.take s1, s1⟩)), .grp (armO D.ar ab), .row (.slice A6 D.fs.length c7) 9 1 D.fs.length (nmC D.fs)]) (by rw [← hkv])
        replace hH := hH.pick [1, 2, 0, 3, 4] (by kernel_rfl) (os' := [.blk db 70 [.map (some mb), .bool D.off, arV D.ar ab], .smap mb (kvE (es2.set (ixE es2 f.name) ⟨f.name, fb, .slice Af s1 s1, f.b.take s1, s1⟩)), filsO (es2.set (ixE es2 f.name) ⟨f.name, fb, .slice Af s1 s1, f.b.take s1, s1⟩), .grp (armO D.ar ab), .row (.slice A6 D.fs.length c7) 9 1 D.fs.length (nmC D.fs)]) (by kernel_rfl)
        · exact ⟨by omega, part_rep hG.srt hR2 hf he ⟨f.name, fb, .slice Af s1 s1, f.b.take s1, s1⟩ rfl (by unfold startF1; rw [← hs1]; rfl), hH⟩
        · show D.fs.length - (i + 1) < D.fs.length - i; omega
  try simp only [decide_eq_false_iff_not, Int.not_lt, Int.not_le] at hc1
  refine sw_exit ?_
  refine thX ?_
  refine thX ?_
  refine bkH ?_
  refine sw_next ?_
  refine sw_region ?_
  refine gl_ops 4 [(70, Pp db 0), (72, Pp db 1)] (by kernel_rfl) ?_
  refine gl_st (st_storeK (v := .bool false) 0 rfl rfl rfl hH rfl rfl rfl (by kernel_rfl) rfl (by simp) ?_)
  clear hH; intro w50 hH
  refine gl_ops 2 [(74, Pp db 2)] (by kernel_rfl) ?_
  refine gl_st (st_storeK (v := .pointer none) 0 rfl rfl rfl hH rfl rfl rfl (by kernel_rfl) rfl (by simp) ?_)
  clear hH; intro w51 hH
  refine gl_done rfl ?_
  refine end0 rfl ?_
  replace hH := (hH.sublist (.cons_cons _ (.cons_cons _ (.cons_cons _ (List.nil_sublist _)))))
  replace hH : Hp w w51 _ _ [.blk db 70 [.map (some mb), .bool false, .pointer none], .smap mb (kvE es2), filsO es2] := hH
  have h3 := hH.nogrp
  have h4 : Hp w w51 _ _ (dskO db mb ab (startD D ks) es2 ++ []) := h3
  exact ⟨es2, rfl, by have h5 := hR2; rw [partF_all (show D.fs.length ≤ i by omega)] at h5; exact h5, h4.close.turned⟩
end Go.Proofs.YtjcchjgkkplamaaGreatDoor
