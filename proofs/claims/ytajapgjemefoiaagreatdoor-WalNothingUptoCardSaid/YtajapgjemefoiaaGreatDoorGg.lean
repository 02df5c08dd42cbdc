/- Gg: several texts in one. -/
import Derived.Test.YtajapgjemefoiaaGreatDoorGf
import Derived.Test.YtajapgjemefoiaaGreatDoorGd
import Derived.Test.YtajapgjemefoiaaGreatDoorGb
import Derived.Test.YtajapgjemefoiaaGreatDoorGc
/- Layer 19 (wal): parts: the files of a log, as they lie in memory: what it answers. -/
set_option maxRecDepth 100000
set_option maxHeartbeats 4000000
set_option linter.unusedVariables false
set_option linter.unusedSimpArgs false
namespace Go.Proofs.YtajapgjemefoiaaGreatDoor
open Go.RowKit Go.SW
def PsI (pl : Pl) (F : List Fil) (i : Nat) (qs : List PV) : Prop := partsF (F.take i) = some (qs.map PV.pt) ∧ ∀ q ∈ qs, PvOk (pz pl) q
theorem partsF_snoc : ∀ (F : List Fil) (f : Fil), partsF (F ++ [f]) = (partsF F).bind fun ps => if numF f.name = 0 then some ps else (ptF f).map fun p => ps ++ [p]
  | [], f => by
    show (if numF f.name = 0 then some [] else (ptF f).bind fun p => (some []).map (p :: ·)) = (some []).bind _
    simp only [Option.bind_some]
    split
    · rfl
    · cases ptF f <;> rfl
  | g :: F, f => by
    rw [List.cons_append, partsF, partsF, partsF_snoc F f]
    by_cases h : numF g.name = 0
    · rw [if_pos h, if_pos h]
    · rw [if_neg h, if_neg h]
      cases ptF g with
      | none => rfl
      | some p =>
        simp only [Option.bind_some]
        cases partsF F with
        | none => rfl
        | some ps =>
          simp only [Option.bind_some, Option.map_some]
          split
          · rfl
          · cases ptF f <;> rfl
theorem partsF_none {F : List Fil} {f : Fil} {i : Nat} (h : F[i]? = some f) {qs : List Pt} (hq : partsF (F.take i) = some qs) (hn : numF f.name ≠ 0) (hp : ptF f = none) : partsF F = none := by
  have hi := (List.getElem?_eq_some_iff.1 h).1
  have he := (List.getElem?_eq_some_iff.1 h).2
  have key : ∀ (G H : List Fil), partsF G = none → partsF (G ++ H) = none := by
    intro G H
    induction H generalizing G with
    | nil => intro h; rwa [List.append_nil]
    | cons x H ih =>
      intro h
      have := ih (G ++ [x]) (by rw [partsF_snoc, h]; rfl)
      rwa [List.append_assoc] at this
  have h1 : partsF (F.take (i + 1)) = none := by
    rw [List.take_succ_eq_append_getElem hi, he, partsF_snoc, hq]
    simp only [Option.bind_some]
    rw [if_neg hn, hp]; rfl
  have := key (F.take (i + 1)) (F.drop (i + 1)) h1
  rwa [List.take_append_drop] at this
theorem psI_start (pl : Pl) (F : List Fil) : PsI pl F 0 [] := ⟨rfl, fun q h => by cases h⟩
theorem psI_skip {pl : Pl} {F : List Fil} {i : Nat} {qs : List PV} {f : Fil} (h : PsI pl F i qs) (hf : F[i]? = some f) (hn : numF f.name = 0) : PsI pl F (i + 1) qs := by
  have hi := (List.getElem?_eq_some_iff.1 hf).1
  have he := (List.getElem?_eq_some_iff.1 hf).2
  refine ⟨?_, h.2⟩
  rw [List.take_succ_eq_append_getElem hi, he, partsF_snoc, h.1]
  simp only [Option.bind_some]
  rw [if_pos hn]
theorem psI_more {pl p2 : Pl} {F : List Fil} {i : Nat} {qs : List PV} {f : Fil} {q : PV} (h : PsI pl F i qs) (hl : (pz pl).le (pz p2)) (hf : F[i]? = some f) (hn : numF f.name ≠ 0) (hp : ptF f = some q.pt) (hq : PvOk (pz p2) q) : PsI p2 F (i + 1) (qs ++ [q]) := by
  have hi := (List.getElem?_eq_some_iff.1 hf).1
  have he := (List.getElem?_eq_some_iff.1 hf).2
  refine ⟨?_, fun x hx => ?_⟩
  · rw [List.take_succ_eq_append_getElem hi, he, partsF_snoc, h.1]
    simp only [Option.bind_some]
    rw [if_neg hn, hp]
    simp
  · rcases List.mem_append.1 hx with hx | hx
    · exact (h.2 x hx).mono hl
    · rw [List.mem_singleton.1 hx]; exact hq
def RsI (pl : Pl) (ps : List (List UInt8)) (k : Nat) (rs : List (Rc × Value)) : Prop := rowsR (ps.take k) = some (rs.map (·.1)) ∧ ∀ r ∈ rs, RB (pz pl) r.2 r.1.d ∧ RcOk r.1
theorem rowsR_snoc : ∀ (ps : List (List UInt8)) (p : List UInt8), rowsR (ps ++ [p]) = (rowsR ps).bind fun rs => (readR p).map fun r => rs ++ [r]
  | [], p => by
    show ((readR p).bind fun x => (some []).map (x :: ·)) = (some []).bind _
    simp only [Option.bind_some]
    cases readR p <;> rfl
  | q :: ps, p => by
    rw [List.cons_append, rowsR, rowsR, rowsR_snoc ps p]
    cases readR q with
    | none => rfl
    | some r =>
      simp only [Option.bind_some]
      cases rowsR ps with
      | none => rfl
      | some rs =>
        simp only [Option.bind_some, Option.map_some]
        cases readR p <;> rfl
theorem rowsR_none {ps : List (List UInt8)} {k : Nat} {p : List UInt8} {rs : List Rc} (h : ps[k]? = some p) (hr : rowsR (ps.take k) = some rs) (hp : readR p = none) : rowsR ps = none := by
  have hi := (List.getElem?_eq_some_iff.1 h).1
  have he := (List.getElem?_eq_some_iff.1 h).2
  have key : ∀ (G H : List (List UInt8)), rowsR G = none → rowsR (G ++ H) = none := by
    intro G H
    induction H generalizing G with
    | nil => intro h; rwa [List.append_nil]
    | cons x H ih =>
      intro h
      have := ih (G ++ [x]) (by rw [rowsR_snoc, h]; rfl)
      rwa [List.append_assoc] at this
  have h1 : rowsR (ps.take (k + 1)) = none := by
    rw [List.take_succ_eq_append_getElem hi, he, rowsR_snoc, hr, hp]; rfl
  have := key (ps.take (k + 1)) (ps.drop (k + 1)) h1
  rwa [List.take_append_drop] at this
theorem rsI_start (pl : Pl) (ps : List (List UInt8)) : RsI pl ps 0 [] := ⟨rfl, fun q h => by cases h⟩
theorem rsI_step {pl p2 : Pl} {ps : List (List UInt8)} {k : Nat} {rs : List (Rc × Value)} {p : List UInt8} {r : Rc} {v : Value} (h : RsI pl ps k rs) (hl : (pz pl).le (pz p2)) (hp : ps[k]? = some p) (hr : readR p = some r) (hv : RB (pz p2) v r.d) : RsI p2 ps (k + 1) (rs ++ [(r, v)]) := by
  have hi := (List.getElem?_eq_some_iff.1 hp).1
  have he := (List.getElem?_eq_some_iff.1 hp).2
  refine ⟨?_, fun x hx => ?_⟩
  · rw [List.take_succ_eq_append_getElem hi, he, rowsR_snoc, h.1, hr]; simp
  · rcases List.mem_append.1 hx with hx | hx
    · exact ⟨(h.2 x hx).1.mono hl, (h.2 x hx).2⟩
    · rw [List.mem_singleton.1 hx]
      exact ⟨hv, readR_ok hr⟩
theorem numF_lt (s : List UInt8) : numF s < 1000000000 := by
  by_cases h : numF s = 0
  · omega
  unfold numF at h ⊢
  split
  · rename_i hc
    obtain ⟨h1, h2, h3, h4, h5⟩ := hc
    have := decV_lt (s.drop 3) h5
    have h6 : (s.drop 3).length ≤ 9 := by rw [List.length_drop]; omega
    have h7 : 10 ^ (s.drop 3).length ≤ 10 ^ 9 := Nat.pow_le_pow_right (by omega) h6
    omega
  · omega
theorem partsF_len : ∀ {F : List Fil} {ps : List Pt}, partsF F = some ps → ps.length ≤ F.length
  | [], ps, h => by cases h; simp
  | f :: F, ps, h => by
    rw [partsF] at h
    split at h
    · have := partsF_len h; rw [List.length_cons]; omega
    · obtain ⟨p, _, h2⟩ := Option.bind_eq_some_iff.1 h
      obtain ⟨r, h3, rfl⟩ := Option.map_eq_some_iff.1 h2
      have := partsF_len h3
      rw [List.length_cons, List.length_cons]; omega
theorem psI_len {pl : Pl} {F : List Fil} {i : Nat} {qs : List PV} (h : PsI pl F i qs) (hi : i ≤ F.length) : qs.length ≤ i := by
  have := partsF_len h.1
  rw [List.length_map, List.length_take] at this
  omega
theorem rowsR_len : ∀ {ps : List (List UInt8)} {rs : List Rc}, rowsR ps = some rs → rs.length = ps.length
  | [], rs, h => by cases h; rfl
  | p :: ps, rs, h => by
    obtain ⟨r, _, h2⟩ := Option.bind_eq_some_iff.1 (show (readR p).bind _ = some rs from h)
    obtain ⟨q, h3, rfl⟩ := Option.map_eq_some_iff.1 h2
    rw [List.length_cons, List.length_cons, rowsR_len h3]
theorem rsI_len {pl : Pl} {ps : List (List UInt8)} {k : Nat} {rs : List (Rc × Value)} (h : RsI pl ps k rs) (hk : k ≤ ps.length) : rs.length = k := by
  have := rowsR_len h.1
  rw [List.length_map, List.length_take] at this
  omega
theorem scan_le : ∀ (b : List UInt8) (k : Nat), k ≤ b.length → (scanA b k).2.1 ≤ b.length ∧ (scanA b k).1.length * 8 ≤ b.length - k := by
  intro b k
  obtain ⟨n, hn⟩ : ∃ n, b.length - k = n := ⟨_, rfl⟩
  induction n using Nat.strongRecOn generalizing k with
  | ind n ih =>
    intro hk
    by_cases h1 : b.length ≤ k
    · rw [scan_end h1]; exact ⟨hk, by simp⟩
    by_cases h2 : (openF (b.drop k)).2.2 = 0
    · have hu := openF_used h2
      rw [List.length_drop] at hu
      rw [scan_step (by omega) h2]
      have := ih (b.length - (k + (openF (b.drop k)).2.1)) (by omega) (k + (openF (b.drop k)).2.1) rfl (by omega)
      refine ⟨this.1, ?_⟩
      rw [List.length_cons]
      omega
    · rw [scan_err (by omega) h2]; exact ⟨hk, by simp⟩

theorem rqG_rb {w0 w : World} {z : Zone} {F : List Nat} {os : List Own} (hH : Hp w0 w z F os) (k : Nat) {e : TypeId} {qs : RQ} (hk : os[k]? = some (rqG e qs)) {i : Nat} {q : List UInt8 × Value} (hq : qs[i]? = some q) : RB w.cell? q.2 q.1 := by
  have h1 := hH.own _ (List.mem_of_getElem? hk)
  have h2 : (rqO e q).at w := h1 _ (List.mem_map.2 ⟨q, List.mem_of_getElem? hq, rfl⟩)
  exact Row.of_own h2

def RdPost (p : List UInt8) (w : World) (v : Value) (w' : World) : Prop :=
  ∃ bad fb r vd, v = .tuple #[.agg #[.int .i64 ((r.k : Nat) : Int), .int .i64 ((r.a : Nat) : Int), .int .i64 ((r.b : Nat) : Int), .int .i64 ((r.c : Nat) : Int), vd], ifW (!bad) 178 (.pointer (some ⟨fb, 0, none⟩))] ∧ ((bad = true ∧ readR p = none) ∨ (bad = false ∧ readR p = some r)) ∧
    Fresh w w' [.row vd 5 1 r.d.length (bv r.d), .grp (bif bad then [.blk fb 180 [.int .i64 90, .int .i64 0]] else [])]
theorem ReadP_ct (vp : Value) (p : List UInt8) (w : World) (hp : RB w.cell? vp p) : Fun Tryz.prog 67 [vp] w fun v w' => RdPost p w v w' := by
  refine (Read_ct vp p w hp).mono ?_
  rintro v w' (⟨fb, h1, rfl, h2⟩ | ⟨r, vd, h1, rfl, h2⟩)
  · refine ⟨true, fb, ⟨0, 0, 0, 0, []⟩, .slice none 0 0, rfl, .inl ⟨rfl, h1⟩, ?_⟩
    have h3 := (Hp.nilRow h2 5 1).pick [1, 0] (by kernel_rfl) rfl
    exact (Hp.close (l := [.blk fb 180 [.int .i64 90, .int .i64 0]]) (r := [.row (.slice none 0 0) 5 1 0 []]) (h3.pick [1, 0] (by kernel_rfl) rfl)).pick [1, 0] (by kernel_rfl) rfl
  · exact ⟨false, 0, r, vd, rfl, .inr ⟨rfl, h1⟩, Hp.nogrp h2⟩
theorem if_bad {bad : Bool} (h : bad = true) (T : TypeId) (v : Value) : ifW (!bad) T v = .iface T v := by rw [h]; rfl
theorem parts_keys : ∀ {F : List Fil} {ps : List Pt}, partsF F = some ps → ps.map (·.k) = ((F.filter fun f => numF f.name != 0).map fun f => numF f.name)
  | [], ps, h => by cases h; rfl
  | f :: F, ps, h => by
    rw [partsF] at h
    split at h
    · rename_i h0
      rw [List.filter_cons_of_neg (by simp [h0])]
      exact parts_keys h
    · rename_i h0
      obtain ⟨p, h1, h2⟩ := Option.bind_eq_some_iff.1 h
      obtain ⟨r, h3, rfl⟩ := Option.map_eq_some_iff.1 h2
      rw [List.filter_cons_of_pos (by simp [h0]), List.map_cons, List.map_cons, parts_keys h3]
      obtain ⟨rs, _, rfl⟩ := Option.map_eq_some_iff.1 (show (rowsR (scanA f.b 0).1).map _ = some p from h1)
      rfl
theorem parts_nodup {F : List Fil} (hS : Srt F) {ps : List Pt} (h : partsF F = some ps) : ps.Pairwise fun a b => a.k ≠ b.k := by
  have h1 : (ps.map (·.k)).Nodup := by
    rw [parts_keys h]
    unfold List.Nodup
    rw [List.pairwise_map]
    refine List.Pairwise.imp_of_mem ?_ (hS.filter _)
    intro a b ha hb hlt e
    have ha2 : numF a.name ≠ 0 := by simpa using (List.mem_filter.1 ha).2
    have hb2 : numF b.name ≠ 0 := by simpa using (List.mem_filter.1 hb).2
    have := nameF_numF ha2
    rw [e, ← nameF_numF hb2] at this
    exact bl_ne hlt this
  exact List.pairwise_map.1 h1
theorem parts_sorted {F : List Fil} (hS : Srt F) {qs ds : List PV} (h : partsF F = some (qs.map PV.pt)) (hp : ds.Perm qs) (hs : ds.Pairwise fun a b => a.k ≤ b.k) : (partsF F).map sortP = some (ds.map PV.pt) := by
  rw [h, Option.map_some, Option.some.injEq]
  have hnd := parts_nodup hS h
  have h1 : (sortP (qs.map PV.pt)).Perm (ds.map PV.pt) := (List.mergeSort_perm _ _).trans (hp.symm.map _)
  have h2 : (ds.map PV.pt).Pairwise fun a b => a.k ≤ b.k := List.pairwise_map.2 hs
  have hinj : ∀ a ∈ sortP (qs.map PV.pt), ∀ b ∈ sortP (qs.map PV.pt), a.k = b.k → a = b := by
    intro a ha b hb e
    have ha2 := (List.mergeSort_perm _ _).mem_iff.1 ha
    have hb2 := (List.mergeSort_perm _ _).mem_iff.1 hb
    exact nodup_inj (f := (·.k)) (List.pairwise_map.2 hnd) ha2 hb2 e
  exact List.Perm.eq_of_pairwise (le := fun a b : Pt => a.k ≤ b.k) (fun a b ha hb h3 h4 => hinj a ha b (h1.mem_iff.2 hb) (by omega)) (sortP_sorted _) h2 h1

theorem Parts_ct (db mb ab : Nat) (D : Dsk) (es : List PE) (M : Nat) (w : World) (hM : Mine w [.grp (dskO db mb ab D es)]) (hR : Rep es D.fs) (hG : Good D.fs M) (hMM : M ≤ 4294967296) (hN : D.fs.length ≤ 1000) :
    Fun Tryz.prog 40 [.pointer (some ⟨db, 0, none⟩)] w fun v w' => (∃ fb, partsF D.fs = none ∧ v = .tuple #[.slice none 0 0, .iface 178 (.pointer (some ⟨fb, 0, none⟩))] ∧ Turn w w' [.grp (dskO db mb ab D es)] [.grp (dskO db mb ab D es), .blk fb 180 [.int .i64 90, .int .i64 0]]) ∨
      (∃ vf ds pl, (partsF D.fs).map sortP = some (ds.map PV.pt) ∧ v = .tuple #[vf, .nilIface] ∧ (∀ q ∈ ds, PvOk (pz pl) q) ∧ Turn w w' [.grp (dskO db mb ab D es)] [.grp (dskO db mb ab D es), .row vf 106 4 ds.length (rowC pvC ds), plO pl]) := by
 refine fun_of_sw Tryz.func40 rfl 69 rfl rfl ?_
 have hH := Hp.start_mine hM
 refine sw_sr ?_
 refine glo 2 [(0, Pp db 0)] ?_
 refine gl_dn rfl ?_
 refine sw_sr ?_
 refine glo 1 [(0, Pp db 0), (4, .slice none 0 0)] ?_
 replace hH := (hH.nilRow 106 4).pool
 replace hH : Hp w w _ _ [.grp (dskO db mb ab D es), .row (.slice none 0 0) 106 4 0 [], plO []] := hH
 refine gl_dn rfl ?_
 refine sw_seq ?_
 refine sw_sr ?_
 refine glo 1 [(4, .slice none 0 0), (16, Pp db 0)] ?_
 replace hH : Hp w w _ _ ([_] ++ [_, _]) := hH
 refine gl_st (st_call rfl rfl rfl (by kernel_rfl) rfl (Files_ct db mb ab D es M _ hH.mine hR hG (by omega) (by omega)) ?_)
 rintro _ w2 ⟨v1, fs, rfl, hfs, hF3⟩
 replace hH := hH.turns hF3; clear hF3
 replace hH : Hp w w2 _ _ [_, _, _, _, _] := hH
 obtain ⟨A4, c5, rfl, hl6, hm7⟩ := hH.row_form 3 rfl
 have hfl : fs.length = D.fs.length := by have := congrArg List.length hfs; simpa using this
 refine gl_q rfl rfl rfl (rd_len (e := 83) (by kernel_rfl) rfl) ?_
 refine glo 1 [(4, .slice none 0 0), (17, .slice A4 fs.length c5), (18, Ni fs.length), (19, .int .i64 0)] ?_
 refine gl_dn rfl ?_
 refine sw_block ?_
 replace hH := hH.fr2.fr2.fr5.fr5.fr5
 replace hH : Hp w w2 _ _ [_, _, _, _, _] := (hH.sublist (slk (slk (slk (slk (slk sln))))))
 refine sw_loop (γ := Nat × List PV × Pl × Option Addr × Nat) (fun (i, qs, pl, Ao, co) => [(4, .slice Ao qs.length co), (17, .slice A4 fs.length c5), (18, Ni fs.length), (19, Ni i)]) (fun (i, qs, pl, Ao, co) w_ => (i ≤ fs.length) ∧ (PsI pl D.fs i qs) ∧ Hp w w_ (off w (blksOf [.grp (dskO db mb ab D es)])) (blksOf [.grp (dskO db mb ab D es)]) [.grp (dskO db mb ab D es), .row (.slice A4 fs.length c5) 83 3 fs.length (rowC filC fs), filRs fs, .row (.slice Ao qs.length co) 106 4 qs.length (rowC pvC qs), plO pl]) (fun (i, qs, pl, Ao, co) => fs.length - i) (0, [], [], none, 0) (Sub.of_eq (by kernel_rfl)) ?_ ?_
 · exact ⟨by omega, psI_start _ _, hH⟩
 clear hH
 rintro ⟨i, qs, pl, Ao, co⟩ w8 ⟨hi, hI, hH⟩
 have hql : qs.length ≤ i := psI_len hI (by omega)
 refine swk [(4, .slice Ao qs.length co), (17, .slice A4 fs.length c5), (18, Ni fs.length), (19, Ni i)] ?_
 refine sw_sr ?_
 refine glo 1 [(4, .slice Ao qs.length co), (17, .slice A4 fs.length c5), (18, Ni fs.length), (19, Ni i), (20, .bool (decide (((i : Nat) : Int) < ((fs.length : Nat) : Int))))] ?_
 refine gl_dn rfl ?_
 refine sw_seq ?_
 refine sw_cond rfl rfl (fun hc1 => ?_) (fun hc1 => ?_)
 ·
  try simp only [decide_eq_true_eq] at hc1
  refine sw_skip ?_
  refine sw_next ?_
  refine sw_seq ?_
  refine sw_block ?_
  obtain ⟨⟨f, fv⟩, hq⟩ : ∃ q, fs[i]? = some q := ⟨_, List.getElem?_eq_getElem (by omega)⟩
  have hf : D.fs[i]? = some f := by rw [← hfs, List.getElem?_map, hq]; rfl
  obtain ⟨Aq, cq, rfl, hq8, hq9⟩ := (show RB _ fv f.b from rs_rbs hH 2 rfl _ (List.mem_of_getElem? hq)).row.form
  have hfn := hG.nm f (List.mem_of_getElem? hf)
  have hfb := hG.short f (List.mem_of_getElem? hf)
  have hnl := numF_lt f.name
  refine sw_sr ?_
  obtain ⟨b10, hb9, hi11⟩ := hH.row_idx 1 rfl i (by omega)
  refine gl_q rfl rfl rfl (rd_idx (e := 83) (m := 3) (by kernel_rfl) (by kernel_rfl) rfl rfl hi11) ?_
  refine gl_q rfl rfl rfl (rd_loadOA (q := 3) 1 (by kernel_rfl) hH rfl rfl hb9 (by kernel_rfl) [.string (bs f.name), .slice Aq f.b.length cq, Ni f.sure] rfl (rowC_allO filC_len hq _ rfl)) ?_
  refine gl_st (st_allocH rfl rfl rfl (cs := [.string (bs []), .slice none 0 0, .int .i64 0]) (by kernel_rfl) hH ?_)
  clear hH; intro b12 w13 hH
  refine gl_st (st_storeKA (vs := [.string (bs f.name), .slice Aq f.b.length cq, Ni f.sure]) 5 rfl rfl rfl hH rfl rfl (by kernel_rfl) (by kernel_rfl) rfl (by simp) [.string (bs f.name), .slice Aq f.b.length cq, Ni f.sure] rfl ?_)
  clear hH; intro w14 hH
  refine gl_dn rfl ?_
  refine sw_sr ?_
  refine glo 1 [(4, .slice Ao qs.length co), (6, Pp b12 0), (17, .slice A4 fs.length c5), (18, Ni fs.length), (19, Ni i), (23, Pp b12 0)] ?_
  refine gl_q rfl rfl rfl (rd_loadK 5 (by kernel_rfl) hH rfl rfl rfl) ?_
  refine gl_st (st_call rfl rfl rfl (by kernel_rfl) rfl (Number_ct f.name _ (by first | omega | (simp <;> omega))) ?_)
  rintro _ w15 ⟨rfl, hF16⟩
  replace hH := hH.call hF16; clear hF16
  refine glo 1 [(4, .slice Ao qs.length co), (6, Pp b12 0), (7, Ni (numF f.name)), (17, .slice A4 fs.length c5), (18, Ni fs.length), (19, Ni i)] ?_
  refine gl_dn rfl ?_
  refine sw_seq ?_
  refine sw_sr ?_
  refine glo 2 [(4, .slice Ao qs.length co), (6, Pp b12 0), (7, Ni (numF f.name)), (17, .slice A4 fs.length c5), (18, Ni fs.length), (19, Ni i), (27, .bool (((numF f.name : Nat) : Int) == (0 : Int)))] ?_
  refine gl_dn rfl ?_
  refine sw_cond rfl rfl (fun hc2 => ?_) (fun hc2 => ?_)
  ·
   try simp only [beq_iff_eq] at hc2
   have hk0 : numF f.name = 0 := by omega
   refine sw_exit ?_
   refine thX ?_
   refine bkH ?_
   refine sw_next ?_
   refine sw_region ?_
   refine glo 1 [(4, .slice Ao qs.length co), (17, .slice A4 fs.length c5), (18, Ni fs.length), (65, .int .i64 (IntKind.i64.wrap (((i : Nat) : Int) + 1)))] ?_
   refine gl_cv 65 (Ni (i + 1)) (cv_i64 (by omega)) rfl ?_
   refine glo 1 [(4, .slice Ao qs.length co), (17, .slice A4 fs.length c5), (18, Ni fs.length), (19, Ni (i + 1))] ?_
   refine gl_done rfl ?_
   refine rnd_end (g := (i, qs, pl, Ao, co)) (i + 1, qs, pl, Ao, co) (by kernel_rfl) ?_ ?_
   replace hH : Hp w w15 _ _ [_, _, _, _, _] := (hH.sublist (slk (slk (slk (slk (slk sln))))))
   · exact ⟨by omega, psI_skip hI hf hk0, hH⟩
   · show fs.length - (i + 1) < fs.length - i; omega
  try simp only [beq_eq_false_iff_ne, ne_eq] at hc2
  have hk0 : numF f.name ≠ 0 := by omega
  refine sw_skip ?_
  refine sw_next ?_
  refine sw_sr ?_
  refine glo 1 [(4, .slice Ao qs.length co), (7, Ni (numF f.name)), (17, .slice A4 fs.length c5), (18, Ni fs.length), (19, Ni i), (29, Pp b12 1)] ?_
  refine gl_q rfl rfl rfl (rd_loadK 5 (by kernel_rfl) hH rfl rfl rfl) ?_
  refine gl_st (st_call rfl rfl rfl (by kernel_rfl) rfl (Scan_ct _ f.b _ (show RB _ _ f.b from rs_rbs hH 2 rfl _ (List.mem_of_getElem? hq)) (by omega)) ?_)
  rintro _ w18 ⟨v17, rqs, rfl, hrs, hF19⟩
  replace hH := hH.call hF19; clear hF19
  obtain ⟨A20, c21, rfl, hl22, hm23⟩ := hH.row_form 6 rfl
  refine glo 7 [(4, .slice Ao qs.length co), (7, Ni (numF f.name)), (8, .slice A20 rqs.length c21), (9, Ni ((scanA f.b 0).2.1)), (10, errV ((scanA f.b 0).2.2)), (17, .slice A4 fs.length c5), (18, Ni fs.length), (19, Ni i)] ?_
  refine gl_dn rfl ?_
  refine sw_sr ?_
  refine glo 3 [(4, .slice Ao qs.length co), (8, .slice A20 rqs.length c21), (17, .slice A4 fs.length c5), (18, Ni fs.length), (19, Ni i), (35, Ni (numF f.name)), (36, Ni ((scanA f.b 0).2.1)), (37, errV ((scanA f.b 0).2.2))] ?_
  refine gl_q rfl rfl rfl (rd_err_ne (by kernel_rfl) rfl) ?_
  refine glo 1 [(4, .slice Ao qs.length co), (8, .slice A20 rqs.length c21), (17, .slice A4 fs.length c5), (18, Ni fs.length), (19, Ni i), (39, .agg #[Ni (numF f.name), Ni ((scanA f.b 0).2.1), .bool (((scanA f.b 0).2.2) != 0), .slice none 0 0])] ?_
  refine gl_st (st_allocH rfl rfl rfl (cs := [.int .i64 0, .int .i64 0, .bool false, .slice none 0 0]) (by kernel_rfl) hH ?_)
  clear hH; intro b24 w25 hH
  replace hH : Hp w w25 _ _ [_, _, _, _, _, _, _, _, _] := hH
  refine gl_st (st_storeKA (vs := [Ni (numF f.name), Ni ((scanA f.b 0).2.1), .bool (((scanA f.b 0).2.2) != 0), .slice none 0 0]) 8 rfl rfl rfl hH rfl rfl (by kernel_rfl) (by kernel_rfl) rfl (by simp) [Ni (numF f.name), Ni ((scanA f.b 0).2.1), .bool (((scanA f.b 0).2.2) != 0), .slice none 0 0] rfl ?_)
  clear hH; intro w26 hH
  replace hH : Hp w w26 _ _ [_, _, _, _, _, _, _, _, _] := hH
  refine gl_dn rfl ?_
  refine sw_seq ?_
  refine sw_sr ?_
  refine glo 1 [(4, .slice Ao qs.length co), (11, Pp b24 0), (17, .slice A4 fs.length c5), (18, Ni fs.length), (19, Ni i), (40, .slice A20 rqs.length c21)] ?_
  refine gl_q rfl rfl rfl (rd_len (e := 37) (by kernel_rfl) rfl) ?_
  refine glo 1 [(4, .slice Ao qs.length co), (11, Pp b24 0), (17, .slice A4 fs.length c5), (18, Ni fs.length), (19, Ni i), (40, .slice A20 rqs.length c21), (41, Ni rqs.length), (42, .int .i64 0)] ?_
  refine gl_dn rfl ?_
  refine sw_block ?_
  replace hH := hH.nilRow 113 5
  replace hH : Hp w w26 _ _ [.grp (dskO db mb ab D es), .row (.slice A4 fs.length c5) 83 3 fs.length (rowC filC fs), filRs fs, .row (.slice Ao qs.length co) 106 4 qs.length (rowC pvC qs), plO pl, .blk b12 83 [.string (bs f.name), .slice Aq f.b.length cq, Ni f.sure], .row (.slice A20 rqs.length c21) 37 1 rqs.length (rowC rqC rqs), rqG 5 rqs, .blk b24 106 [Ni (numF f.name), Ni ((scanA f.b 0).2.1), .bool (((scanA f.b 0).2.2) != 0), .slice none 0 0], .row (.slice none 0 0) 113 5 0 []] := hH
  have hsl := scan_le f.b 0 (Nat.zero_le _)
  have hrl : rqs.length = (scanA f.b 0).1.length := by have := congrArg List.length hrs; simpa using this.symm
  replace hH := hH.fr10.fr10.fr10.fr10.fr9.fr9.fr9.fr9.fr9
  replace hH : Hp w w26 _ _ [_, _, _, _, _, _, _, _, _] := (hH.sublist (slk (slk (slk (slk (slk (slk (slk (slk (slk sln))))))))))
  refine sw_loop (γ := Nat × List (Rc × Value) × Pl × Option Addr × Nat) (fun (k, rs, pk, Ac, cc) => [(4, .slice Ao qs.length co), (11, Pp b24 0), (17, .slice A4 fs.length c5), (18, Ni fs.length), (19, Ni i), (40, .slice A20 rqs.length c21), (41, Ni rqs.length), (42, Ni k)]) (fun (k, rs, pk, Ac, cc) w_ => (k ≤ rqs.length) ∧ (RsI pk (scanA f.b 0).1 k rs) ∧ ((pz pl).le (pz pk)) ∧ Hp w w_ (off w (blksOf [.grp (dskO db mb ab D es)])) (blksOf [.grp (dskO db mb ab D es)]) [.grp (dskO db mb ab D es), .row (.slice A4 fs.length c5) 83 3 fs.length (rowC filC fs), filRs fs, .row (.slice Ao qs.length co) 106 4 qs.length (rowC pvC qs), plO pk, .row (.slice A20 rqs.length c21) 37 1 rqs.length (rowC rqC rqs), rqG 5 rqs, .blk b24 106 [Ni (numF f.name), Ni ((scanA f.b 0).2.1), .bool (((scanA f.b 0).2.2) != 0), .slice Ac rs.length cc], .row (.slice Ac rs.length cc) 113 5 rs.length (rowC rcC rs)]) (fun (k, rs, pk, Ac, cc) => rqs.length - k) (0, [], pl, none, 0) (Sub.of_eq (by kernel_rfl)) ?_ ?_
  · exact ⟨by omega, rsI_start _ _, Zone.le.refl _, hH⟩
  clear hH
  rintro ⟨k, rs, pk, Ac, cc⟩ w27 ⟨hk, hJ, hle, hH⟩
  have hrsl := rsI_len hJ (by omega)
  refine swk [(4, .slice Ao qs.length co), (11, Pp b24 0), (17, .slice A4 fs.length c5), (18, Ni fs.length), (19, Ni i), (40, .slice A20 rqs.length c21), (41, Ni rqs.length), (42, Ni k)] ?_
  refine sw_sr ?_
  refine glo 1 [(4, .slice Ao qs.length co), (11, Pp b24 0), (17, .slice A4 fs.length c5), (18, Ni fs.length), (19, Ni i), (40, .slice A20 rqs.length c21), (41, Ni rqs.length), (42, Ni k), (43, .bool (decide (((k : Nat) : Int) < ((rqs.length : Nat) : Int))))] ?_
  refine gl_dn rfl ?_
  refine sw_seq ?_
  refine sw_cond rfl rfl (fun hc3 => ?_) (fun hc3 => ?_)
  ·
   try simp only [decide_eq_true_eq] at hc3
   refine sw_skip ?_
   refine sw_next ?_
   refine sw_seq ?_
   refine sw_block ?_
   obtain ⟨⟨pq, vr⟩, hrq⟩ : ∃ q, rqs[k]? = some q := ⟨_, List.getElem?_eq_getElem (by omega)⟩
   have hpq : (scanA f.b 0).1[k]? = some pq := by rw [hrs, List.getElem?_map, hrq]; rfl
   obtain ⟨Ar, cr, rfl, _, _⟩ := (show RB _ vr pq from rqG_rb hH 6 rfl hrq).row.form
   refine sw_sr ?_
   obtain ⟨b29, hb28, hi30⟩ := hH.row_idx 5 rfl k (by omega)
   refine gl_q rfl rfl rfl (rd_idx (e := 37) (m := 1) (by kernel_rfl) (by kernel_rfl) rfl rfl hi30) ?_
   refine gl_q rfl rfl rfl (rd_loadO 5 (by kernel_rfl) hH rfl rfl hb28 (rowC_at rqC_len hrq 0 (by decide) rfl)) ?_
   refine glo 1 [(4, .slice Ao qs.length co), (11, Pp b24 0), (13, .slice Ar pq.length cr), (17, .slice A4 fs.length c5), (18, Ni fs.length), (19, Ni i), (40, .slice A20 rqs.length c21), (41, Ni rqs.length), (42, Ni k)] ?_
   refine gl_dn rfl ?_
   refine sw_sr ?_
   refine glo 1 [(4, .slice Ao qs.length co), (11, Pp b24 0), (17, .slice A4 fs.length c5), (18, Ni fs.length), (19, Ni i), (40, .slice A20 rqs.length c21), (41, Ni rqs.length), (42, Ni k), (47, .slice Ar pq.length cr)] ?_
   refine gl_st (st_call rfl rfl rfl (by kernel_rfl) rfl (ReadP_ct _ pq _ (show RB _ _ pq from rqG_rb hH 6 rfl hrq)) ?_)
   rintro _ w31 ⟨bad, fb, r, vd, rfl, hor, hF32⟩
   replace hH := hH.call hF32; clear hF32
   obtain ⟨Ad, cd, rfl, _, _⟩ := hH.row_form 9 rfl
   replace hH : Hp w w31 _ _ [.grp (dskO db mb ab D es), .row (.slice A4 fs.length c5) 83 3 fs.length (rowC filC fs), filRs fs, .row (.slice Ao qs.length co) 106 4 qs.length (rowC pvC qs), plO pk, .row (.slice A20 rqs.length c21) 37 1 rqs.length (rowC rqC rqs), rqG 5 rqs, .blk b24 106 [Ni (numF f.name), Ni ((scanA f.b 0).2.1), .bool (((scanA f.b 0).2.2) != 0), .slice Ac rs.length cc], .row (.slice Ac rs.length cc) 113 5 rs.length (rowC rcC rs), .row (.slice Ad r.d.length cd) 5 1 r.d.length (bv r.d), .grp (bif bad then [.blk fb 180 [.int .i64 90, .int .i64 0]] else [])] := hH
   replace hH : Hp w w31 _ _ [_, _, _, _, _, _, _, _, _, _, _] := hH
   refine glo 3 [(4, .slice Ao qs.length co), (11, Pp b24 0), (17, .slice A4 fs.length c5), (18, Ni fs.length), (19, Ni i), (40, .slice A20 rqs.length c21), (41, Ni rqs.length), (42, Ni k), (49, .agg #[Ni r.k, Ni r.a, Ni r.b, Ni r.c, .slice Ad r.d.length cd]), (50, ifW (!bad) 178 (.pointer (some ⟨fb, 0, none⟩)))] ?_
   refine gl_st (st_allocH rfl rfl rfl (cs := [.int .i64 0, .int .i64 0, .int .i64 0, .int .i64 0, .slice none 0 0]) (by kernel_rfl) hH ?_)
   clear hH; intro b33 w34 hH
   replace hH : Hp w w34 _ _ [_, _, _, _, _, _, _, _, _, _, _, _] := hH
   refine gl_st (st_storeKA (vs := [Ni r.k, Ni r.a, Ni r.b, Ni r.c, .slice Ad r.d.length cd]) 11 rfl rfl rfl hH rfl rfl (by kernel_rfl) (by kernel_rfl) rfl (by simp) [Ni r.k, Ni r.a, Ni r.b, Ni r.c, .slice Ad r.d.length cd] rfl ?_)
   clear hH; intro w35 hH
   replace hH : Hp w w35 _ _ [_, _, _, _, _, _, _, _, _, _, _, _] := hH
   refine glo 1 [(4, .slice Ao qs.length co), (11, Pp b24 0), (14, Pp b33 0), (15, ifW (!bad) 178 (.pointer (some ⟨fb, 0, none⟩))), (17, .slice A4 fs.length c5), (18, Ni fs.length), (19, Ni i), (40, .slice A20 rqs.length c21), (41, Ni rqs.length), (42, Ni k)] ?_
   refine gl_dn rfl ?_
   refine sw_seq ?_
   refine sw_sr ?_
   refine glo 1 [(4, .slice Ao qs.length co), (11, Pp b24 0), (14, Pp b33 0), (15, ifW (!bad) 178 (.pointer (some ⟨fb, 0, none⟩))), (17, .slice A4 fs.length c5), (18, Ni fs.length), (19, Ni i), (40, .slice A20 rqs.length c21), (41, Ni rqs.length), (42, Ni k), (51, ifW (!bad) 178 (.pointer (some ⟨fb, 0, none⟩)))] ?_
   refine gl_q rfl rfl rfl (rd_if_ne (by kernel_rfl) rfl) ?_
   refine gl_dn rfl ?_
   refine sw_cond rfl rfl (fun hc4 => ?_) (fun hc4 => ?_)
   ·
    try simp only [Bool.not_eq_true'] at hc4
    have hbad : bad = true := by simpa using hc4
    refine sw_sr ?_
    refine glo 3 [(2, .slice none 0 0), (3, ifW (!bad) 178 (.pointer (some ⟨fb, 0, none⟩)))] ?_
    refine gl_dn rfl ?_
    refine sw_ret ?_
    refine thR ?_
    refine bkR ?_
    refine thR ?_
    refine thR ?_
    refine bkR ?_
    refine thR ?_
    refine bkR ?_
    refine thR ?_
    refine thR ?_
    refine bkR ?_
    refine thR ?_
    refine ret2 rfl rfl rfl  ?_
    replace hH := hH.fr11.fr2
    replace hH : Hp w w35 _ _ [_, _] := (hH.sublist (slk (slk sln)))
    have hrn := (hor.resolve_right (fun h => by rw [h.1] at hbad; cases hbad)).2
    have hpn : ptF f = none := by unfold ptF; rw [rowsR_none hpq hJ.1 hrn]; rfl
    rw [hbad] at hH ⊢
    have h9 : Hp _ _ _ _ [.blk fb 180 [.int .i64 90, .int .i64 0], .grp (dskO db mb ab D es)] := ((hH.pick [1, 0] (by kernel_rfl) rfl : Hp _ _ _ _ [.grp [.blk fb 180 [.int .i64 90, .int .i64 0]], .grp (dskO db mb ab D es)])).open_
    exact .inl ⟨fb, partsF_none hf hI.1 hk0 hpn, rfl, (h9.pick [1, 0] (by kernel_rfl) rfl).turned⟩
   try simp only [Bool.not_eq_false'] at hc4
   have hbad : bad = false := by simpa using hc4
   refine sw_skip ?_
   refine sw_next ?_
   replace hH := hH.fr5.fr10
   obtain ⟨p2, hvd, hH⟩ := pl_add hH
   replace hH : Hp w w35 _ _ [plO (pk ++ p2), .grp (dskO db mb ab D es), .row (.slice A4 fs.length c5) 83 3 fs.length (rowC filC fs), filRs fs, .row (.slice Ao qs.length co) 106 4 qs.length (rowC pvC qs), .row (.slice A20 rqs.length c21) 37 1 rqs.length (rowC rqC rqs), rqG 5 rqs, .blk b24 106 [Ni (numF f.name), Ni ((scanA f.b 0).2.1), .bool (((scanA f.b 0).2.2) != 0), .slice Ac rs.length cc], .row (.slice Ac rs.length cc) 113 5 rs.length (rowC rcC rs), .grp (bif bad then [.blk fb 180 [.int .i64 90, .int .i64 0]] else []), .blk b33 113 [Ni r.k, Ni r.a, Ni r.b, Ni r.c, .slice Ad r.d.length cd]] := hH
   have hrd := hor.resolve_left (fun h => by rw [h.1] at hbad; cases hbad)
   replace hrd := hrd.2
   refine sw_region ?_
   refine glo 1 [(4, .slice Ao qs.length co), (11, Pp b24 0), (14, Pp b33 0), (17, .slice A4 fs.length c5), (18, Ni fs.length), (19, Ni i), (40, .slice A20 rqs.length c21), (41, Ni rqs.length), (42, Ni k), (54, Pp b24 3)] ?_
   refine gl_q rfl rfl rfl (rd_loadK 7 (by kernel_rfl) hH rfl rfl rfl) ?_
   refine gl_q rfl rfl rfl (rd_loadKA (m := 5) 10 (by kernel_rfl) hH rfl rfl (by kernel_rfl) [Ni r.k, Ni r.a, Ni r.b, Ni r.c, .slice Ad r.d.length cd] rfl rfl) ?_
   refine gl_st (st_buildS (e := 113) (zv := .agg #[.int .i64 0, .int .i64 0, .int .i64 0, .int .i64 0, .slice none 0 0]) (m := 5) (bytes := 56) rfl rfl rfl (by kernel_rfl) (by kernel_rfl) rfl (cs := [Ni r.k, Ni r.a, Ni r.b, Ni r.c, .slice Ad r.d.length cd]) (by kernel_rfl) rfl hH ?_)
   clear hH; intro b36 w37 hH
   replace hH : Hp w w37 _ _ [_, _, _, _, _, _, _, _, _, _, _, _] := hH
   refine gl_st (st_appH (e := 113) (zv := .agg #[.int .i64 0, .int .i64 0, .int .i64 0, .int .i64 0, .slice none 0 0]) (m := 5) (bytes := 56) 8 rfl rfl rfl (by kernel_rfl) (by kernel_rfl) rfl (by decide) hH rfl rfl rfl (hH.row_reads 11 rfl) (by simp [Value.oneCell']) (by unfold maxLen; omega) (by omega) ?_)
   clear hH; intro v38 w39 hH
   replace hH := hH.row_eq 8 (l' := (rs ++ [(r, Value.slice Ad r.d.length cd)]).length) (xs' := rowC rcC (rs ++ [(r, Value.slice Ad r.d.length cd)])) rfl (by simp) (rowC_app rcC rs [(r, Value.slice Ad r.d.length cd)])
   obtain ⟨A40, c41, rfl, hl42, hm43⟩ := hH.row_form 8 rfl
   replace hH : Hp w w39 _ _ [_, _, _, _, _, _, _, _, _, _, _, _] := hH
   refine glo 1 [(4, .slice Ao qs.length co), (11, Pp b24 0), (17, .slice A4 fs.length c5), (18, Ni fs.length), (19, Ni i), (40, .slice A20 rqs.length c21), (41, Ni rqs.length), (42, Ni k), (58, .slice A40 ((rs ++ [(r, Value.slice Ad r.d.length cd)]).length) c41), (59, Pp b24 3)] ?_
   refine gl_st (st_storeK (v := .slice A40 ((rs ++ [(r, Value.slice Ad r.d.length cd)]).length) c41) 7 rfl rfl rfl hH rfl rfl rfl (by kernel_rfl) rfl (by simp) ?_)
   clear hH; intro w44 hH
   replace hH : Hp w w44 _ _ [_, _, _, _, _, _, _, _, _, _, _, _] := hH
   refine gl_done rfl ?_
   refine bkN ?_
   refine sw_next ?_
   refine sw_region ?_
   refine glo 1 [(4, .slice Ao qs.length co), (11, Pp b24 0), (17, .slice A4 fs.length c5), (18, Ni fs.length), (19, Ni i), (40, .slice A20 rqs.length c21), (41, Ni rqs.length), (60, .int .i64 (IntKind.i64.wrap (((k : Nat) : Int) + 1)))] ?_
   refine gl_cv 60 (Ni (k + 1)) (cv_i64 (by omega)) rfl ?_
   refine glo 1 [(4, .slice Ao qs.length co), (11, Pp b24 0), (17, .slice A4 fs.length c5), (18, Ni fs.length), (19, Ni i), (40, .slice A20 rqs.length c21), (41, Ni rqs.length), (42, Ni (k + 1))] ?_
   refine gl_done rfl ?_
   refine rnd_end (g := (k, rs, pk, Ac, cc)) (k + 1, rs ++ [(r, Value.slice Ad r.d.length cd)], pk ++ p2, A40, c41) (by kernel_rfl) ?_ ?_
   replace hH := hH.fr9.fr9.fr9.fr9.fr5.fr9.fr9.fr9.fr9
   replace hH : Hp w w44 _ _ [_, _, _, _, _, _, _, _, _] := (hH.sublist (slk (slk (slk (slk (slk (slk (slk (slk (slk sln))))))))))
   · exact ⟨by omega, rsI_step hJ (pz_app _ _) hpq hrd hvd, hle.trans (pz_app _ _), hH⟩
   · show rqs.length - (k + 1) < rqs.length - k; omega
  try simp only [decide_eq_false_iff_not, Int.not_lt, Int.not_le] at hc3
  refine sw_exit ?_
  refine thX ?_
  refine thX ?_
  refine bkH ?_
  refine sw_next ?_
  have hJ2 := rsI_len hJ (by omega)
  have hke : k = rqs.length := by omega
  replace hH := hH.fr5.fr9
  obtain ⟨p3, hrr, hH⟩ := pl_add hH
  replace hH : Hp w w27 _ _ [plO (pk ++ p3), .grp (dskO db mb ab D es), .row (.slice A4 fs.length c5) 83 3 fs.length (rowC filC fs), filRs fs, .row (.slice Ao qs.length co) 106 4 qs.length (rowC pvC qs), .row (.slice A20 rqs.length c21) 37 1 rqs.length (rowC rqC rqs), rqG 5 rqs, .blk b24 106 [Ni (numF f.name), Ni ((scanA f.b 0).2.1), .bool (((scanA f.b 0).2.2) != 0), .slice Ac rs.length cc]] := hH
  have hrall : rowsR (scanA f.b 0).1 = some (rs.map (·.1)) := by have := hJ.1; rwa [List.take_of_length_le (by omega)] at this
  have hpf : ptF f = some (PV.pt (⟨numF f.name, (scanA f.b 0).2.1, (scanA f.b 0).2.2 != 0, rs, Ac, cc⟩ : PV)) := by unfold ptF; rw [hrall]; simp only [Option.map_some, PV.pt, PV.recs]; congr 2; rw [Bool.eq_iff_iff]; simp
  have hpok : PvOk (pz (pk ++ p3)) (⟨numF f.name, (scanA f.b 0).2.1, (scanA f.b 0).2.2 != 0, rs, Ac, cc⟩ : PV) := ⟨hrr, fun r hr => ⟨(hJ.2 r hr).1.mono (pz_app _ _), (hJ.2 r hr).2⟩, hnl, by simp only; omega⟩
  refine sw_region ?_
  refine glo 1 [(11, Pp b24 0), (17, .slice A4 fs.length c5), (18, Ni fs.length), (19, Ni i), (61, .slice Ao qs.length co)] ?_
  refine gl_q rfl rfl rfl (rd_loadKA (m := 4) 7 (by kernel_rfl) hH rfl rfl (by kernel_rfl) [Ni (numF f.name), Ni ((scanA f.b 0).2.1), .bool (((scanA f.b 0).2.2) != 0), .slice Ac rs.length cc] rfl rfl) ?_
  refine gl_st (st_buildS (e := 106) (zv := .agg #[.int .i64 0, .int .i64 0, .bool false, .slice none 0 0]) (m := 4) (bytes := 48) rfl rfl rfl (by kernel_rfl) (by kernel_rfl) rfl (cs := [Ni (numF f.name), Ni ((scanA f.b 0).2.1), .bool (((scanA f.b 0).2.2) != 0), .slice Ac rs.length cc]) (by kernel_rfl) rfl hH ?_)
  clear hH; intro b45 w46 hH
  replace hH : Hp w w46 _ _ [_, _, _, _, _, _, _, _, _] := hH
  refine gl_st (st_appH (e := 106) (zv := .agg #[.int .i64 0, .int .i64 0, .bool false, .slice none 0 0]) (m := 4) (bytes := 48) 4 rfl rfl rfl (by kernel_rfl) (by kernel_rfl) rfl (by decide) hH rfl rfl rfl (hH.row_reads 8 rfl) (by simp [Value.oneCell']) (by unfold maxLen; omega) (by omega) ?_)
  clear hH; intro v47 w48 hH
  replace hH := hH.row_eq 4 (l' := (qs ++ [(⟨numF f.name, (scanA f.b 0).2.1, (scanA f.b 0).2.2 != 0, rs, Ac, cc⟩ : PV)]).length) (xs' := rowC pvC (qs ++ [(⟨numF f.name, (scanA f.b 0).2.1, (scanA f.b 0).2.2 != 0, rs, Ac, cc⟩ : PV)])) rfl (by simp) (rowC_app pvC qs [(⟨numF f.name, (scanA f.b 0).2.1, (scanA f.b 0).2.2 != 0, rs, Ac, cc⟩ : PV)])
  obtain ⟨A49, c50, rfl, hl51, hm52⟩ := hH.row_form 4 rfl
  replace hH : Hp w w48 _ _ [_, _, _, _, _, _, _, _, _] := hH
  refine glo 1 [(4, .slice A49 ((qs ++ [(⟨numF f.name, (scanA f.b 0).2.1, (scanA f.b 0).2.2 != 0, rs, Ac, cc⟩ : PV)]).length) c50), (17, .slice A4 fs.length c5), (18, Ni fs.length), (19, Ni i)] ?_
  refine gl_done rfl ?_
  refine bkN ?_
  refine sw_next ?_
  refine sw_region ?_
  refine glo 1 [(4, .slice A49 ((qs ++ [(⟨numF f.name, (scanA f.b 0).2.1, (scanA f.b 0).2.2 != 0, rs, Ac, cc⟩ : PV)]).length) c50), (17, .slice A4 fs.length c5), (18, Ni fs.length), (65, .int .i64 (IntKind.i64.wrap (((i : Nat) : Int) + 1)))] ?_
  refine gl_cv 65 (Ni (i + 1)) (cv_i64 (by omega)) rfl ?_
  refine glo 1 [(4, .slice A49 ((qs ++ [(⟨numF f.name, (scanA f.b 0).2.1, (scanA f.b 0).2.2 != 0, rs, Ac, cc⟩ : PV)]).length) c50), (17, .slice A4 fs.length c5), (18, Ni fs.length), (19, Ni (i + 1))] ?_
  refine gl_done rfl ?_
  refine rnd_end (g := (i, qs, pl, Ao, co)) (i + 1, qs ++ [(⟨numF f.name, (scanA f.b 0).2.1, (scanA f.b 0).2.2 != 0, rs, Ac, cc⟩ : PV)], pk ++ p3, A49, c50) (by kernel_rfl) ?_ ?_
  replace hH := hH.fr5.fr5.fr5.fr5
  replace hH : Hp w w48 _ _ [_, _, _, _, _] := (hH.sublist (slk (slk (slk (slk (slk sln))))))
  · exact ⟨by omega, psI_more hI (hle.trans (pz_app _ _)) hf hk0 hpf hpok, hH⟩
  · show fs.length - (i + 1) < fs.length - i; omega
 try simp only [decide_eq_false_iff_not, Int.not_lt, Int.not_le] at hc1
 refine sw_exit ?_
 refine thX ?_
 refine thX ?_
 refine bkH ?_
 refine sw_next ?_
 refine sw_sr ?_
 refine glo 1 [(4, .slice Ao qs.length co), (66, .slice Ao qs.length co)] ?_
 replace hH : Hp w w8 _ _ ([_] ++ [_, _, _, _]) := hH.fr4
 refine gl_st (st_call rfl rfl rfl (by kernel_rfl) rfl (PartsSort_ct _ qs _ hH.mine (by omega)) ?_)
 rintro _ w53 ⟨ds, rfl, hds, hF54⟩
 replace hH := hH.turns hF54; clear hF54
 replace hH : Hp w w53 _ _ [_, _, _, _, _] := hH
 have hdl : ds.length = qs.length := hds.1.length_eq
 refine gl_dn rfl ?_
 refine sw_sr ?_
 refine glo 3 [(2, .slice Ao qs.length co), (3, .nilIface)] ?_
 refine gl_dn rfl ?_
 refine sw_ret ?_
 refine ret2 rfl rfl rfl  ?_
 replace hH := hH.fr4.fr5.fr3
 replace hH : Hp w w53 _ _ [_, _, _] := (hH.sublist (slk (slk (slk sln))))
 have hie : D.fs.length ≤ i := by omega
 have hps := hI.1
 rw [List.take_of_length_le hie] at hps
 exact .inr ⟨_, ds, pl, parts_sorted hG.srt hps hds.1 hds.2, rfl, fun q hq => hI.2 q (hds.1.mem_iff.1 hq), hH.turned⟩
end Go.Proofs.YtajapgjemefoiaaGreatDoor
/- Layer 19 (wal): a log is read from its files: what it answers. -/
set_option maxRecDepth 100000
set_option maxHeartbeats 4000000
set_option linter.unusedVariables false
set_option linter.unusedSimpArgs false
namespace Go.Proofs.YtajapgjemefoiaaGreatDoor
open Go.RowKit Go.SW
theorem pv_drop {c : Zone} {v : Value} {qs : List PV} {f : Nat} (hf : f ≤ qs.length) (h : Row c v 4 (qs.length - f) (((rowC pvC qs).drop (f * 4)).take ((qs.length - f) * 4))) : Row c v 4 (qs.drop f).length (rowC pvC (qs.drop f)) := by
  rw [rowC_drop pvC_len, List.take_of_length_le (by rw [rowC_len pvC_len, List.length_drop]; omega)] at h
  rw [List.length_drop]; exact h
theorem amiss_nx {qs : List PV} {i : Nat} {q : PV} (h : ∀ j : Nat, j < i → ∀ q, qs[j]? = some q → ¬ amiss qs j q) (hq : qs[i]? = some q) (hn : ¬ amiss qs i q) : ∀ j : Nat, j < i + 1 → ∀ q, qs[j]? = some q → ¬ amiss qs j q := by
  intro j hj r hr
  rcases Nat.lt_succ_iff_lt_or_eq.1 hj with h1 | rfl
  · exact h j h1 r hr
  · rw [hq] at hr; cases hr; exact hn
theorem from_nx {qs : List PV} {i : Nat} {q : PV} (hq : qs[i]? = some q) : fromP ((qs.take (i + 1)).map PV.pt) = if isBase q.pt = true then some i else fromP ((qs.take i).map PV.pt) := by
  have hi := (List.getElem?_eq_some_iff.1 hq).1
  have he := (List.getElem?_eq_some_iff.1 hq).2
  rw [List.take_succ_eq_append_getElem hi, he, List.map_append, List.map_singleton, fromP_snoc, List.length_map, List.length_take, Nat.min_eq_left (by omega)]
def recN (qs : List PV) : Nat := (qs.map PV.recs).flatten.length
theorem recN_drop (qs : List PV) (f : Nat) : recN (qs.drop f) ≤ recN qs := by
  unfold recN
  conv => rhs; rw [← List.take_append_drop f qs]
  rw [List.map_append, List.flatten_append, List.length_append]; omega
theorem do_back {w0 w : World} {z : Zone} {F : List Nat} {o : List Own} {r : List Own} {a b : Own} (e : o = [a, b]) (h : Hp w0 w z F (.grp o :: r)) : Hp w0 w z F (a :: b :: r) := by
  subst e
  exact h.open_
theorem recs_len {qs : List PV} {j : Nat} {q : PV} (h : qs[j]? = some q) {k : Nat} (hk : k ≤ q.rs.length) : (recsN qs j ++ q.recs.take k).length ≤ recN qs := by
  obtain ⟨M, e⟩ := recsN_split h k
  unfold recN
  rw [e]
  simp only [List.length_append]; omega
theorem rcOk_dl {r : Rc} (h : RcOk r) : r.d.length ≤ 65536 := by
  rcases h.k with h | h
  · exact h.2
  · rw [h.2.2]; simp
theorem recs_ok {c : Zone} {qs : List PV} (h : ∀ q ∈ qs, PvOk c q) {j : Nat} {q : PV} (hq : qs[j]? = some q) (k : Nat) : ∀ r ∈ recsN qs j ++ q.recs.take k, RcOk r := by
  intro r hr
  obtain ⟨M, e⟩ := recsN_split hq k
  have : r ∈ (qs.map PV.recs).flatten := by rw [e]; exact List.mem_append_left _ hr
  obtain ⟨l, hl, hr2⟩ := List.mem_flatten.1 this
  obtain ⟨x, hx, rfl⟩ := List.mem_map.1 hl
  obtain ⟨y, hy, rfl⟩ := List.mem_map.1 hr2
  exact ((h x hx).ok y hy).2

theorem LRead_ct (g db : Nat) (fi lo : Int) (bad vf : Value) (qs : List PV) (pl : Pl) (Zp : Zone) (w : World) (hM : Mine w [lgO g db Cn.zero (.slice none 0 0) fi lo bad, plO pl]) (hZ : Zp.le (off w (blksOf [lgO g db Cn.zero (.slice none 0 0) fi lo bad, plO pl]))) (hF : Row (off w (blksOf [lgO g db Cn.zero (.slice none 0 0) fi lo bad, plO pl])) vf 4 qs.length (rowC pvC qs)) (hP0 : ∀ q ∈ qs, PvOk Zp q) (hn : qs.length ≤ 1000) (hrs : recN qs ≤ 1000000) :
    Fun Tryz.prog 42 [.pointer (some ⟨g, 0, none⟩), vf] w fun v w' => (readL (qs.map PV.pt) = none ∧ v = .tuple #[.int .i64 0, errV 90] ∧ Turn w w' [lgO g db Cn.zero (.slice none 0 0) fi lo bad, plO pl] []) ∨
      (∃ i c2 es2 ve2 pl2, readL (qs.map PV.pt) = some (i, c2) ∧ v = .tuple #[.int .i64 ((i : Nat) : Int), .nilIface] ∧ CnR pl2 c2 es2 ve2 ∧ Turn w w' [lgO g db Cn.zero (.slice none 0 0) fi lo bad, plO pl] [lgO g db c2 ve2 fi lo bad, plO pl2]) := by
 obtain ⟨Af0, cf, rfl, hf1, hf2⟩ := hF.form
 have hP : ∀ q ∈ qs, PvOk (off w (blksOf [lgO g db Cn.zero (.slice none 0 0) fi lo bad, plO pl])) q := fun q hq => (hP0 q hq).mono hZ
 refine fun_of_sw Tryz.func42 rfl 99 rfl rfl ?_
 have hH := Hp.start_mine hM
 replace hH : Hp w w _ _ [.blk g 96 [Pp db 0, .int .i64 0, .int .i64 0, .int .i64 0, .int .i64 0, .slice none 0 0, .int .i64 fi, .int .i64 lo, bad], plO pl] := hH
 refine sw_sr ?_
 refine glo 2 [(0, Pp g 0), (1, .slice Af0 qs.length cf)] ?_
 refine gl_dn rfl ?_
 refine sw_sr ?_
 refine glo 1 [(0, Pp g 0), (1, .slice Af0 qs.length cf), (6, .int .i64 (-1))] ?_
 refine gl_dn rfl ?_
 refine sw_seq ?_
 refine sw_sr ?_
 refine glo 1 [(0, Pp g 0), (1, .slice Af0 qs.length cf), (6, .int .i64 (-1)), (13, .slice Af0 qs.length cf)] ?_
 refine gl_q rfl rfl rfl (rd_len (e := 106) (by kernel_rfl) rfl) ?_
 refine glo 1 [(0, Pp g 0), (1, .slice Af0 qs.length cf), (6, .int .i64 (-1)), (13, .slice Af0 qs.length cf), (14, Ni qs.length), (15, .int .i64 0)] ?_
 refine gl_dn rfl ?_
 refine sw_block ?_
 refine sw_loop (γ := Nat × Int) (fun (i, fr) => [(0, Pp g 0), (1, .slice Af0 qs.length cf), (6, .int .i64 fr), (13, .slice Af0 qs.length cf), (14, Ni qs.length), (15, Ni i)]) (fun (i, fr) w_ => (i ≤ qs.length) ∧ (∀ j : Nat, j < i → ∀ q, qs[j]? = some q → ¬ amiss qs j q) ∧ (fr = fromV (fromP ((qs.take i).map PV.pt))) ∧ Hp w w_ (off w (blksOf [lgO g db Cn.zero (.slice none 0 0) fi lo bad, plO pl])) (blksOf [lgO g db Cn.zero (.slice none 0 0) fi lo bad, plO pl]) [.blk g 96 [Pp db 0, .int .i64 0, .int .i64 0, .int .i64 0, .int .i64 0, .slice none 0 0, .int .i64 fi, .int .i64 lo, bad], plO pl]) (fun (i, fr) => qs.length - i) (0, (-1)) (Sub.of_eq (by kernel_rfl)) ?_ ?_
 · exact ⟨by omega, fun j hj => absurd hj (by omega), rfl, hH⟩
 clear hH
 rintro ⟨i, fr⟩ w1 ⟨hi, hall, hfr, hH⟩
 refine swk [(0, Pp g 0), (1, .slice Af0 qs.length cf), (6, .int .i64 fr), (13, .slice Af0 qs.length cf), (14, Ni qs.length), (15, Ni i)] ?_
 refine sw_sr ?_
 refine glo 1 [(0, Pp g 0), (1, .slice Af0 qs.length cf), (6, .int .i64 fr), (13, .slice Af0 qs.length cf), (14, Ni qs.length), (15, Ni i), (16, .bool (decide (((i : Nat) : Int) < ((qs.length : Nat) : Int))))] ?_
 refine gl_dn rfl ?_
 refine sw_seq ?_
 refine sw_cond rfl rfl (fun hc1 => ?_) (fun hc1 => ?_)
 ·
  try simp only [decide_eq_true_eq] at hc1
  refine sw_skip ?_
  refine sw_next ?_
  refine sw_seq ?_
  refine sw_block ?_
  obtain ⟨q, hq⟩ : ∃ q, qs[i]? = some q := ⟨_, List.getElem?_eq_getElem (by omega)⟩
  have hqok := hP q (List.mem_of_getElem? hq)
  have qrow := hqok.row
  have hqk := hqok.k
  have hfx := from_nx hq
  refine sw_sr ?_
  obtain ⟨p2, hi4, hp3⟩ := hF.idx i (by omega) (by decide)
  refine glo 1 [(0, Pp g 0), (1, .slice Af0 qs.length cf), (6, .int .i64 fr), (13, .slice Af0 qs.length cf), (14, Ni qs.length), (15, Ni i), (17, Ni i)] ?_
  refine gl_q rfl rfl rfl (rd_idx (e := 106) (m := 4) (by kernel_rfl) (by kernel_rfl) rfl rfl hi4) ?_
  refine gl_q rfl rfl rfl (rd_loadZA (by kernel_rfl) hH hp3 rfl 0 rfl [Ni q.k, Ni q.whole, .bool q.more, .slice q.A q.rs.length q.cap] (by kernel_rfl) (rowC_all pvC_len hq 0 _ rfl)) ?_
  refine gl_st (st_allocH rfl rfl rfl (cs := [.int .i64 0, .int .i64 0, .bool false, .slice none 0 0]) (by kernel_rfl) hH ?_)
  clear hH; intro b5 w6 hH
  refine glo 1 [(0, Pp g 0), (1, .slice Af0 qs.length cf), (6, .int .i64 fr), (7, Ni i), (8, Pp b5 0), (13, .slice Af0 qs.length cf), (14, Ni qs.length), (15, Ni i), (19, .agg #[Ni q.k, Ni q.whole, .bool q.more, .slice q.A q.rs.length q.cap])] ?_
  refine gl_st (st_storeKA (vs := [Ni q.k, Ni q.whole, .bool q.more, .slice q.A q.rs.length q.cap]) 2 rfl rfl rfl hH rfl rfl (by kernel_rfl) (by kernel_rfl) rfl (by simp) [Ni q.k, Ni q.whole, .bool q.more, .slice q.A q.rs.length q.cap] rfl ?_)
  clear hH; intro w7 hH
  refine gl_dn rfl ?_
  refine sw_seq ?_
  refine sw_cut (γ := Bool) (fun bd => [(0, Pp g 0), (1, .slice Af0 qs.length cf), (6, .int .i64 fr), (7, Ni i), (8, Pp b5 0), (13, .slice Af0 qs.length cf), (14, Ni qs.length), (15, Ni i), (49, .bool bd)]) (fun bd w_ => (bd = true ↔ amiss qs i q) ∧ Hp w w_ (off w (blksOf [lgO g db Cn.zero (.slice none 0 0) fi lo bad, plO pl])) (blksOf [lgO g db Cn.zero (.slice none 0 0) fi lo bad, plO pl]) [.blk g 96 [Pp db 0, .int .i64 0, .int .i64 0, .int .i64 0, .int .i64 0, .slice none 0 0, .int .i64 fi, .int .i64 lo, bad], plO pl, .blk b5 106 [Ni q.k, Ni q.whole, .bool q.more, .slice q.A q.rs.length q.cap]]) ?_ ?_
  ·
   refine sw_draw (by kernel_rfl) (fun w_ => Hp w w_ (off w (blksOf [lgO g db Cn.zero (.slice none 0 0) fi lo bad, plO pl])) (blksOf [lgO g db Cn.zero (.slice none 0 0) fi lo bad, plO pl]) [.blk g 96 [Pp db 0, .int .i64 0, .int .i64 0, .int .i64 0, .int .i64 0, .slice none 0 0, .int .i64 fi, .int .i64 lo, bad], plO pl, .blk b5 106 [Ni q.k, Ni q.whole, .bool q.more, .slice q.A q.rs.length q.cap]]) ?_
   replace hH := hH.drew
   generalize { w7 with drawn := w7.drawn + 1 } = w8 at hH ⊢
   have hS9 := hH.sublist (slk (slk (slk sln)))
   refine gdo 1 [0] [(0, Pp g 0), (1, .slice Af0 qs.length cf), (6, .int .i64 fr), (7, Ni i), (8, Pp b5 0), (13, .slice Af0 qs.length cf), (14, Ni qs.length), (15, Ni i), (20, Pp b5 0)] hS9 (PQ.th (PQ.th (PQ.bk (PQ.th (PQ.th (PQ.bk (PQ.th PQ.body))))))) ?_
   refine gdq 1 rfl (fun w_ hS => (rd_loadK 2 (by kernel_rfl) hS rfl rfl rfl)) hS9 (PQ.th (PQ.th (PQ.bk (PQ.th (PQ.th (PQ.bk (PQ.th PQ.body))))))) ?_
   refine gdo 2 [2,3] [(0, Pp g 0), (1, .slice Af0 qs.length cf), (6, .int .i64 fr), (7, Ni i), (8, Pp b5 0), (13, .slice Af0 qs.length cf), (14, Ni qs.length), (15, Ni i), (23, .bool (decide (((q.k : Nat) : Int) > (100000000 : Int))))] hS9 (PQ.th (PQ.th (PQ.bk (PQ.th (PQ.th (PQ.bk (PQ.th PQ.body))))))) ?_
   refine gd_split 23 (b := decide (((q.k : Nat) : Int) > (100000000 : Int))) rfl (fun hg2 => ?_) (fun hg2 => ?_)
   ·
    try simp only [decide_eq_true_eq] at hg2
    refine gdo 26 [4,5,6,7,8,9,10,11,12,13,14,15,16,17,18,19,20,21,22,23,24,25,26,27,28,29] [(0, Pp g 0), (1, .slice Af0 qs.length cf), (6, .int .i64 fr), (7, Ni i), (8, Pp b5 0), (13, .slice Af0 qs.length cf), (14, Ni qs.length), (15, Ni i), (49, .bool true)] hS9 (PQ.th (PQ.th (PQ.bk (PQ.th (PQ.th (PQ.bk (PQ.th PQ.body))))))) ?_
    refine gdn [(0, Pp g 0), (1, .slice Af0 qs.length cf), (6, .int .i64 fr), (7, Ni i), (8, Pp b5 0), (13, .slice Af0 qs.length cf), (14, Ni qs.length), (15, Ni i), (49, .bool true)] ?_
    refine cut_end (true) (Sub.of_eq (by kernel_rfl)) ?_
    exact ⟨by
      unfold amiss
      first
      | exact ⟨fun _ => .inl (by omega), fun _ => rfl⟩
      | exact ⟨fun _ => .inr (.inl ⟨by omega, by omega⟩), fun _ => rfl⟩
      | exact ⟨fun h => Bool.noConfusion h, fun h => by rcases h with h | h | h <;> first | (exfalso; omega) | exact absurd h.1 (by rw [hmf]; simp)⟩
      | exact ⟨fun h => .inr (.inr ⟨hmt, by have := of_decide_eq_true h; omega⟩), fun h => by rcases h with h | h | h <;> first | (exfalso; omega) | exact decide_eq_true (by omega)⟩, (hH.sublist (slk (slk (slk sln))))⟩
   ·
    try simp only [decide_eq_false_iff_not, Int.not_lt, Int.not_le] at hg2
    refine gdo 3 [4,5,6] [(0, Pp g 0), (1, .slice Af0 qs.length cf), (6, .int .i64 fr), (7, Ni i), (8, Pp b5 0), (13, .slice Af0 qs.length cf), (14, Ni qs.length), (15, Ni i), (23, .bool false), (26, .bool (decide (((i : Nat) : Int) > (0 : Int))))] hS9 (PQ.th (PQ.th (PQ.bk (PQ.th (PQ.th (PQ.bk (PQ.th PQ.body))))))) ?_
    refine gd_split 26 (b := decide (((i : Nat) : Int) > (0 : Int))) rfl (fun hg3 => ?_) (fun hg3 => ?_)
    ·
     try simp only [decide_eq_true_eq] at hg3
     obtain ⟨q0, hq0⟩ : ∃ x, qs[i - 1]? = some x := ⟨_, List.getElem?_eq_getElem (by omega)⟩
     have hkp : kPrev qs i = q0.k := by unfold kPrev; rw [hq0]; rfl
     have hq0k := (hP q0 (List.mem_of_getElem? hq0)).k
     refine gdo 3 [7,8,9] [(0, Pp g 0), (1, .slice Af0 qs.length cf), (6, .int .i64 fr), (7, Ni i), (8, Pp b5 0), (13, .slice Af0 qs.length cf), (14, Ni qs.length), (15, Ni i), (23, .bool false), (26, .bool true), (27, .slice Af0 qs.length cf), (28, Ni i), (29, .int .i64 (IntKind.i64.wrap (((i : Nat) : Int) - 1)))] hS9 (PQ.th (PQ.th (PQ.bk (PQ.th (PQ.th (PQ.bk (PQ.th PQ.body))))))) ?_
     refine gd_cv 29 (Ni (i - 1)) (cv_i64 (by omega)) rfl ?_
     obtain ⟨p9, hi11, hp10⟩ := hF.idx (i - 1) (by omega) (by decide)
     refine gdq 10 rfl (fun w_ hS => (rd_idx (e := 106) (m := 4) (by kernel_rfl) (by kernel_rfl) rfl rfl hi11)) hS9 (PQ.th (PQ.th (PQ.bk (PQ.th (PQ.th (PQ.bk (PQ.th PQ.body))))))) ?_
     refine gdo 1 [11] [(0, Pp g 0), (1, .slice Af0 qs.length cf), (6, .int .i64 fr), (7, Ni i), (8, Pp b5 0), (13, .slice Af0 qs.length cf), (14, Ni qs.length), (15, Ni i), (23, .bool false), (26, .bool true), (31, .pointer (some p9))] hS9 (PQ.th (PQ.th (PQ.bk (PQ.th (PQ.th (PQ.bk (PQ.th PQ.body))))))) ?_
     refine gdq 12 rfl (fun w_ hS => (rd_load (by kernel_rfl) rfl (hS.zin _ _ (hp10 0 _ (by decide) (rowC_at pvC_len hq0 0 (by decide) rfl))))) hS9 (PQ.th (PQ.th (PQ.bk (PQ.th (PQ.th (PQ.bk (PQ.th PQ.body))))))) ?_
     refine gdo 1 [13] [(0, Pp g 0), (1, .slice Af0 qs.length cf), (6, .int .i64 fr), (7, Ni i), (8, Pp b5 0), (13, .slice Af0 qs.length cf), (14, Ni qs.length), (15, Ni i), (23, .bool false), (26, .bool true), (32, Ni q0.k), (33, .int .i64 (IntKind.i64.wrap (((q0.k : Nat) : Int) + 1)))] hS9 (PQ.th (PQ.th (PQ.bk (PQ.th (PQ.th (PQ.bk (PQ.th PQ.body))))))) ?_
     refine gd_cv 33 (Ni (q0.k + 1)) (cv_i64 (by omega)) rfl ?_
     refine gdo 1 [14] [(0, Pp g 0), (1, .slice Af0 qs.length cf), (6, .int .i64 fr), (7, Ni i), (8, Pp b5 0), (13, .slice Af0 qs.length cf), (14, Ni qs.length), (15, Ni i), (23, .bool false), (26, .bool true), (33, Ni (q0.k + 1)), (34, Pp b5 0)] hS9 (PQ.th (PQ.th (PQ.bk (PQ.th (PQ.th (PQ.bk (PQ.th PQ.body))))))) ?_
     refine gdq 15 rfl (fun w_ hS => (rd_loadK 2 (by kernel_rfl) hS rfl rfl rfl)) hS9 (PQ.th (PQ.th (PQ.bk (PQ.th (PQ.th (PQ.bk (PQ.th PQ.body))))))) ?_
     refine gdo 4 [16,17,18,19] [(0, Pp g 0), (1, .slice Af0 qs.length cf), (6, .int .i64 fr), (7, Ni i), (8, Pp b5 0), (13, .slice Af0 qs.length cf), (14, Ni qs.length), (15, Ni i), (39, .bool (((q0.k + 1 : Nat) : Int) != ((q.k : Nat) : Int)))] hS9 (PQ.th (PQ.th (PQ.bk (PQ.th (PQ.th (PQ.bk (PQ.th PQ.body))))))) ?_
     refine gd_split 39 (b := ((q0.k + 1 : Nat) : Int) != ((q.k : Nat) : Int)) rfl (fun hg4 => ?_) (fun hg4 => ?_)
     ·
      try simp only [bne_iff_ne, ne_eq] at hg4
      refine gdo 10 [20,21,22,23,24,25,26,27,28,29] [(0, Pp g 0), (1, .slice Af0 qs.length cf), (6, .int .i64 fr), (7, Ni i), (8, Pp b5 0), (13, .slice Af0 qs.length cf), (14, Ni qs.length), (15, Ni i), (49, .bool true)] hS9 (PQ.th (PQ.th (PQ.bk (PQ.th (PQ.th (PQ.bk (PQ.th PQ.body))))))) ?_
      refine gdn [(0, Pp g 0), (1, .slice Af0 qs.length cf), (6, .int .i64 fr), (7, Ni i), (8, Pp b5 0), (13, .slice Af0 qs.length cf), (14, Ni qs.length), (15, Ni i), (49, .bool true)] ?_
      refine cut_end (true) (Sub.of_eq (by kernel_rfl)) ?_
      exact ⟨by
        unfold amiss
        first
        | exact ⟨fun _ => .inl (by omega), fun _ => rfl⟩
        | exact ⟨fun _ => .inr (.inl ⟨by omega, by omega⟩), fun _ => rfl⟩
        | exact ⟨fun h => Bool.noConfusion h, fun h => by rcases h with h | h | h <;> first | (exfalso; omega) | exact absurd h.1 (by rw [hmf]; simp)⟩
        | exact ⟨fun h => .inr (.inr ⟨hmt, by have := of_decide_eq_true h; omega⟩), fun h => by rcases h with h | h | h <;> first | (exfalso; omega) | exact decide_eq_true (by omega)⟩, (hH.sublist (slk (slk (slk sln))))⟩
     ·
      try simp only [bne_eq_false_iff_eq] at hg4
      refine gdo 1 [20] [(0, Pp g 0), (1, .slice Af0 qs.length cf), (6, .int .i64 fr), (7, Ni i), (8, Pp b5 0), (13, .slice Af0 qs.length cf), (14, Ni qs.length), (15, Ni i), (39, .bool false), (40, Pp b5 2)] hS9 (PQ.th (PQ.th (PQ.bk (PQ.th (PQ.th (PQ.bk (PQ.th PQ.body))))))) ?_
      refine gdq 21 rfl (fun w_ hS => (rd_loadK 2 (by kernel_rfl) hS rfl rfl rfl)) hS9 (PQ.th (PQ.th (PQ.bk (PQ.th (PQ.th (PQ.bk (PQ.th PQ.body))))))) ?_
      refine gdo 1 [22] [(0, Pp g 0), (1, .slice Af0 qs.length cf), (6, .int .i64 fr), (7, Ni i), (8, Pp b5 0), (13, .slice Af0 qs.length cf), (14, Ni qs.length), (15, Ni i), (39, .bool false), (42, .bool q.more)] hS9 (PQ.th (PQ.th (PQ.bk (PQ.th (PQ.th (PQ.bk (PQ.th PQ.body))))))) ?_
      refine gd_split 42 (b := q.more) rfl (fun hg5 => ?_) (fun hg5 => ?_)
      ·
       have hmt := hg5
       refine gdo 2 [23,24] [(0, Pp g 0), (1, .slice Af0 qs.length cf), (6, .int .i64 fr), (7, Ni i), (8, Pp b5 0), (13, .slice Af0 qs.length cf), (14, Ni qs.length), (15, Ni i), (39, .bool false), (42, .bool true), (43, Ni i), (44, .int .i64 (IntKind.i64.wrap (((i : Nat) : Int) + 1)))] hS9 (PQ.th (PQ.th (PQ.bk (PQ.th (PQ.th (PQ.bk (PQ.th PQ.body))))))) ?_
       refine gd_cv 44 (Ni (i + 1)) (cv_i64 (by omega)) rfl ?_
       refine gdo 1 [25] [(0, Pp g 0), (1, .slice Af0 qs.length cf), (6, .int .i64 fr), (7, Ni i), (8, Pp b5 0), (13, .slice Af0 qs.length cf), (14, Ni qs.length), (15, Ni i), (39, .bool false), (42, .bool true), (44, Ni (i + 1)), (45, .slice Af0 qs.length cf)] hS9 (PQ.th (PQ.th (PQ.bk (PQ.th (PQ.th (PQ.bk (PQ.th PQ.body))))))) ?_
       refine gdq 26 rfl (fun w_ hS => (rd_len (e := 106) (by kernel_rfl) rfl)) hS9 (PQ.th (PQ.th (PQ.bk (PQ.th (PQ.th (PQ.bk (PQ.th PQ.body))))))) ?_
       refine gdo 3 [27,28,29] [(0, Pp g 0), (1, .slice Af0 qs.length cf), (6, .int .i64 fr), (7, Ni i), (8, Pp b5 0), (13, .slice Af0 qs.length cf), (14, Ni qs.length), (15, Ni i), (49, .bool (decide (((i + 1 : Nat) : Int) < ((qs.length : Nat) : Int))))] hS9 (PQ.th (PQ.th (PQ.bk (PQ.th (PQ.th (PQ.bk (PQ.th PQ.body))))))) ?_
       refine gdn [(0, Pp g 0), (1, .slice Af0 qs.length cf), (6, .int .i64 fr), (7, Ni i), (8, Pp b5 0), (13, .slice Af0 qs.length cf), (14, Ni qs.length), (15, Ni i), (49, .bool (decide (((i + 1 : Nat) : Int) < ((qs.length : Nat) : Int))))] ?_
       refine cut_end (decide (((i + 1 : Nat) : Int) < ((qs.length : Nat) : Int))) (Sub.of_eq (by kernel_rfl)) ?_
       exact ⟨by
         unfold amiss
         first
         | exact ⟨fun _ => .inl (by omega), fun _ => rfl⟩
         | exact ⟨fun _ => .inr (.inl ⟨by omega, by omega⟩), fun _ => rfl⟩
         | exact ⟨fun h => Bool.noConfusion h, fun h => by rcases h with h | h | h <;> first | (exfalso; omega) | exact absurd h.1 (by rw [hmf]; simp)⟩
         | exact ⟨fun h => .inr (.inr ⟨hmt, by have := of_decide_eq_true h; omega⟩), fun h => by rcases h with h | h | h <;> first | (exfalso; omega) | exact decide_eq_true (by omega)⟩, (hH.sublist (slk (slk (slk sln))))⟩
      ·
       have hmf := hg5
       refine gdo 7 [23,24,25,26,27,28,29] [(0, Pp g 0), (1, .slice Af0 qs.length cf), (6, .int .i64 fr), (7, Ni i), (8, Pp b5 0), (13, .slice Af0 qs.length cf), (14, Ni qs.length), (15, Ni i), (49, .bool false)] hS9 (PQ.th (PQ.th (PQ.bk (PQ.th (PQ.th (PQ.bk (PQ.th PQ.body))))))) ?_
       refine gdn [(0, Pp g 0), (1, .slice Af0 qs.length cf), (6, .int .i64 fr), (7, Ni i), (8, Pp b5 0), (13, .slice Af0 qs.length cf), (14, Ni qs.length), (15, Ni i), (49, .bool false)] ?_
       refine cut_end (false) (Sub.of_eq (by kernel_rfl)) ?_
       exact ⟨by
         unfold amiss
         first
         | exact ⟨fun _ => .inl (by omega), fun _ => rfl⟩
         | exact ⟨fun _ => .inr (.inl ⟨by omega, by omega⟩), fun _ => rfl⟩
         | exact ⟨fun h => Bool.noConfusion h, fun h => by rcases h with h | h | h <;> first | (exfalso; omega) | exact absurd h.1 (by rw [hmf]; simp)⟩
         | exact ⟨fun h => .inr (.inr ⟨hmt, by have := of_decide_eq_true h; omega⟩), fun h => by rcases h with h | h | h <;> first | (exfalso; omega) | exact decide_eq_true (by omega)⟩, (hH.sublist (slk (slk (slk sln))))⟩
    ·
     try simp only [decide_eq_false_iff_not, Int.not_lt, Int.not_le] at hg3
     refine gdo 14 [7,8,9,10,11,12,13,14,15,16,17,18,19,20] [(0, Pp g 0), (1, .slice Af0 qs.length cf), (6, .int .i64 fr), (7, Ni i), (8, Pp b5 0), (13, .slice Af0 qs.length cf), (14, Ni qs.length), (15, Ni i), (39, .bool false), (40, Pp b5 2)] hS9 (PQ.th (PQ.th (PQ.bk (PQ.th (PQ.th (PQ.bk (PQ.th PQ.body))))))) ?_
     refine gdq 21 rfl (fun w_ hS => (rd_loadK 2 (by kernel_rfl) hS rfl rfl rfl)) hS9 (PQ.th (PQ.th (PQ.bk (PQ.th (PQ.th (PQ.bk (PQ.th PQ.body))))))) ?_
     refine gdo 1 [22] [(0, Pp g 0), (1, .slice Af0 qs.length cf), (6, .int .i64 fr), (7, Ni i), (8, Pp b5 0), (13, .slice Af0 qs.length cf), (14, Ni qs.length), (15, Ni i), (39, .bool false), (42, .bool q.more)] hS9 (PQ.th (PQ.th (PQ.bk (PQ.th (PQ.th (PQ.bk (PQ.th PQ.body))))))) ?_
     refine gd_split 42 (b := q.more) rfl (fun hg6 => ?_) (fun hg6 => ?_)
     ·
      have hmt := hg6
      refine gdo 2 [23,24] [(0, Pp g 0), (1, .slice Af0 qs.length cf), (6, .int .i64 fr), (7, Ni i), (8, Pp b5 0), (13, .slice Af0 qs.length cf), (14, Ni qs.length), (15, Ni i), (39, .bool false), (42, .bool true), (43, Ni i), (44, .int .i64 (IntKind.i64.wrap (((i : Nat) : Int) + 1)))] hS9 (PQ.th (PQ.th (PQ.bk (PQ.th (PQ.th (PQ.bk (PQ.th PQ.body))))))) ?_
      refine gd_cv 44 (Ni (i + 1)) (cv_i64 (by omega)) rfl ?_
      refine gdo 1 [25] [(0, Pp g 0), (1, .slice Af0 qs.length cf), (6, .int .i64 fr), (7, Ni i), (8, Pp b5 0), (13, .slice Af0 qs.length cf), (14, Ni qs.length), (15, Ni i), (39, .bool false), (42, .bool true), (44, Ni (i + 1)), (45, .slice Af0 qs.length cf)] hS9 (PQ.th (PQ.th (PQ.bk (PQ.th (PQ.th (PQ.bk (PQ.th PQ.body))))))) ?_
      refine gdq 26 rfl (fun w_ hS => (rd_len (e := 106) (by kernel_rfl) rfl)) hS9 (PQ.th (PQ.th (PQ.bk (PQ.th (PQ.th (PQ.bk (PQ.th PQ.body))))))) ?_
      refine gdo 3 [27,28,29] [(0, Pp g 0), (1, .slice Af0 qs.length cf), (6, .int .i64 fr), (7, Ni i), (8, Pp b5 0), (13, .slice Af0 qs.length cf), (14, Ni qs.length), (15, Ni i), (49, .bool (decide (((i + 1 : Nat) : Int) < ((qs.length : Nat) : Int))))] hS9 (PQ.th (PQ.th (PQ.bk (PQ.th (PQ.th (PQ.bk (PQ.th PQ.body))))))) ?_
      refine gdn [(0, Pp g 0), (1, .slice Af0 qs.length cf), (6, .int .i64 fr), (7, Ni i), (8, Pp b5 0), (13, .slice Af0 qs.length cf), (14, Ni qs.length), (15, Ni i), (49, .bool (decide (((i + 1 : Nat) : Int) < ((qs.length : Nat) : Int))))] ?_
      refine cut_end (decide (((i + 1 : Nat) : Int) < ((qs.length : Nat) : Int))) (Sub.of_eq (by kernel_rfl)) ?_
      exact ⟨by
        unfold amiss
        first
        | exact ⟨fun _ => .inl (by omega), fun _ => rfl⟩
        | exact ⟨fun _ => .inr (.inl ⟨by omega, by omega⟩), fun _ => rfl⟩
        | exact ⟨fun h => Bool.noConfusion h, fun h => by rcases h with h | h | h <;> first | (exfalso; omega) | exact absurd h.1 (by rw [hmf]; simp)⟩
        | exact ⟨fun h => .inr (.inr ⟨hmt, by have := of_decide_eq_true h; omega⟩), fun h => by rcases h with h | h | h <;> first | (exfalso; omega) | exact decide_eq_true (by omega)⟩, (hH.sublist (slk (slk (slk sln))))⟩
     ·
      have hmf := hg6
      refine gdo 7 [23,24,25,26,27,28,29] [(0, Pp g 0), (1, .slice Af0 qs.length cf), (6, .int .i64 fr), (7, Ni i), (8, Pp b5 0), (13, .slice Af0 qs.length cf), (14, Ni qs.length), (15, Ni i), (49, .bool false)] hS9 (PQ.th (PQ.th (PQ.bk (PQ.th (PQ.th (PQ.bk (PQ.th PQ.body))))))) ?_
      refine gdn [(0, Pp g 0), (1, .slice Af0 qs.length cf), (6, .int .i64 fr), (7, Ni i), (8, Pp b5 0), (13, .slice Af0 qs.length cf), (14, Ni qs.length), (15, Ni i), (49, .bool false)] ?_
      refine cut_end (false) (Sub.of_eq (by kernel_rfl)) ?_
      exact ⟨by
        unfold amiss
        first
        | exact ⟨fun _ => .inl (by omega), fun _ => rfl⟩
        | exact ⟨fun _ => .inr (.inl ⟨by omega, by omega⟩), fun _ => rfl⟩
        | exact ⟨fun h => Bool.noConfusion h, fun h => by rcases h with h | h | h <;> first | (exfalso; omega) | exact absurd h.1 (by rw [hmf]; simp)⟩
        | exact ⟨fun h => .inr (.inr ⟨hmt, by have := of_decide_eq_true h; omega⟩), fun h => by rcases h with h | h | h <;> first | (exfalso; omega) | exact decide_eq_true (by omega)⟩, (hH.sublist (slk (slk (slk sln))))⟩
  clear hH
  rintro bd w12 ⟨hbd, hH⟩
  refine swk [(0, Pp g 0), (1, .slice Af0 qs.length cf), (6, .int .i64 fr), (7, Ni i), (8, Pp b5 0), (13, .slice Af0 qs.length cf), (14, Ni qs.length), (15, Ni i), (49, .bool bd)] ?_
  refine sw_cond rfl rfl (fun hc7 => ?_) (fun hc7 => ?_)
  ·
   have hbt := hc7
   refine sw_sr ?_
   refine glo 3 [(4, .int .i64 0), (5, .iface 38 (.int .i64 90))] ?_
   refine gl_dn rfl ?_
   refine sw_ret ?_
   refine thR ?_
   refine bkR ?_
   refine thR ?_
   refine thR ?_
   refine bkR ?_
   refine thR ?_
   refine ret2 rfl rfl rfl  ?_
   exact .inl ⟨by unfold readL; rw [if_neg (okP_not hq (hbd.1 hbt))], rfl, (hH.sublist (List.nil_sublist _)).turned⟩
  have hfine : ¬ amiss qs i q := fun h => by have := hbd.2 h; rw [this] at hc7; cases hc7
  refine sw_skip ?_
  refine sw_next ?_
  refine sw_cut (γ := Bool) (fun ib => [(0, Pp g 0), (1, .slice Af0 qs.length cf), (6, .int .i64 fr), (7, Ni i), (13, .slice Af0 qs.length cf), (14, Ni qs.length), (15, Ni i), (62, .bool ib)]) (fun ib w_ => (ib = isBase q.pt) ∧ Hp w w_ (off w (blksOf [lgO g db Cn.zero (.slice none 0 0) fi lo bad, plO pl])) (blksOf [lgO g db Cn.zero (.slice none 0 0) fi lo bad, plO pl]) [.blk g 96 [Pp db 0, .int .i64 0, .int .i64 0, .int .i64 0, .int .i64 0, .slice none 0 0, .int .i64 fi, .int .i64 lo, bad], plO pl, .blk b5 106 [Ni q.k, Ni q.whole, .bool q.more, .slice q.A q.rs.length q.cap]]) ?_ ?_
  ·
   refine sw_region ?_
   refine glo 1 [(0, Pp g 0), (1, .slice Af0 qs.length cf), (6, .int .i64 fr), (7, Ni i), (8, Pp b5 0), (13, .slice Af0 qs.length cf), (14, Ni qs.length), (15, Ni i), (51, Pp b5 3)] ?_
   refine gl_q rfl rfl rfl (rd_loadK 2 (by kernel_rfl) hH rfl rfl rfl) ?_
   refine gl_q rfl rfl rfl (rd_len (e := 113) (by kernel_rfl) rfl) ?_
   refine glo 2 [(0, Pp g 0), (1, .slice Af0 qs.length cf), (6, .int .i64 fr), (7, Ni i), (8, Pp b5 0), (13, .slice Af0 qs.length cf), (14, Ni qs.length), (15, Ni i), (55, .bool (decide (((q.rs.length : Nat) : Int) > (0 : Int))))] ?_
   refine gl_split 55 (b := decide (((q.rs.length : Nat) : Int) > (0 : Int))) rfl (fun hg8 => ?_) (fun hg8 => ?_)
   ·
    try simp only [decide_eq_true_eq] at hg8
    obtain ⟨r0, hr0⟩ : ∃ x, q.rs[0]? = some x := ⟨_, List.getElem?_eq_getElem (by omega)⟩
    obtain ⟨⟨r0, vr0⟩, hr0⟩ : ∃ x, q.rs[0]? = some x := ⟨_, hr0⟩
    obtain ⟨Ad, cd, hvr, _, _⟩ := (hqok.ok _ (List.mem_of_getElem? hr0)).1.row.form
    simp only at hvr
    subst hvr
    refine glo 1 [(0, Pp g 0), (1, .slice Af0 qs.length cf), (6, .int .i64 fr), (7, Ni i), (13, .slice Af0 qs.length cf), (14, Ni qs.length), (15, Ni i), (55, .bool true), (56, Pp b5 3)] ?_
    refine gl_q rfl rfl rfl (rd_loadK 2 (by kernel_rfl) hH rfl rfl rfl) ?_
    obtain ⟨p13, hi15, hp14⟩ := qrow.idx 0 (by omega) (by decide)
    refine gl_q rfl rfl rfl (rd_idx (e := 113) (m := 5) (by kernel_rfl) (by kernel_rfl) rfl rfl hi15) ?_
    refine glo 1 [(0, Pp g 0), (1, .slice Af0 qs.length cf), (6, .int .i64 fr), (7, Ni i), (13, .slice Af0 qs.length cf), (14, Ni qs.length), (15, Ni i), (55, .bool true), (59, .pointer (some p13))] ?_
    refine gl_q rfl rfl rfl (rd_load (by kernel_rfl) rfl (hH.zin _ _ (hp14 0 _ (by decide) (rowC_at rcC_len hr0 0 (by decide) rfl)))) ?_
    refine glo 2 [(0, Pp g 0), (1, .slice Af0 qs.length cf), (6, .int .i64 fr), (7, Ni i), (13, .slice Af0 qs.length cf), (14, Ni qs.length), (15, Ni i), (62, .bool (((r0.k : Nat) : Int) == (3 : Int)))] ?_
    refine gl_done rfl ?_
    refine cut_end (((r0.k : Nat) : Int) == (3 : Int)) (Sub.of_eq (by kernel_rfl)) ?_
    exact ⟨by rw [isBase_pt]; first | (rw [hr0, Option.map_some, Bool.eq_iff_iff, decide_eq_true_eq, beq_iff_eq, Option.some.injEq]; try simp only; omega) | (rw [List.getElem?_eq_none (by omega)]; rfl), (hH.sublist (slk (slk (slk sln))))⟩
   try simp only [decide_eq_false_iff_not, Int.not_lt, Int.not_le] at hg8
   have hrn : q.rs.length = 0 := by omega
   refine glo 7 [(0, Pp g 0), (1, .slice Af0 qs.length cf), (6, .int .i64 fr), (7, Ni i), (13, .slice Af0 qs.length cf), (14, Ni qs.length), (15, Ni i), (62, .bool false)] ?_
   refine gl_done rfl ?_
   refine cut_end (false) (Sub.of_eq (by kernel_rfl)) ?_
   exact ⟨by rw [isBase_pt]; first | (rw [hr0, Option.map_some, Bool.eq_iff_iff, decide_eq_true_eq, beq_iff_eq, Option.some.injEq]; try simp only; omega) | (rw [List.getElem?_eq_none (by omega)]; rfl), (hH.sublist (slk (slk (slk sln))))⟩
  clear hH
  rintro ib w16 ⟨hib, hH⟩
  refine swk [(0, Pp g 0), (1, .slice Af0 qs.length cf), (6, .int .i64 fr), (7, Ni i), (13, .slice Af0 qs.length cf), (14, Ni qs.length), (15, Ni i), (62, .bool ib)] ?_
  refine sw_cond rfl rfl (fun hc9 => ?_) (fun hc9 => ?_)
  ·
   have hisb : isBase q.pt = true := by rw [← hib]; exact hc9
   refine sw_region ?_
   refine glo 2 [(0, Pp g 0), (1, .slice Af0 qs.length cf), (6, Ni i), (13, .slice Af0 qs.length cf), (14, Ni qs.length), (15, Ni i)] ?_
   refine gl_done rfl ?_
   refine bkN ?_
   refine sw_next ?_
   refine sw_region ?_
   refine glo 1 [(0, Pp g 0), (1, .slice Af0 qs.length cf), (6, Ni i), (13, .slice Af0 qs.length cf), (14, Ni qs.length), (64, .int .i64 (IntKind.i64.wrap (((i : Nat) : Int) + 1)))] ?_
   refine gl_cv 64 (Ni (i + 1)) (cv_i64 (by omega)) rfl ?_
   refine glo 1 [(0, Pp g 0), (1, .slice Af0 qs.length cf), (6, Ni i), (13, .slice Af0 qs.length cf), (14, Ni qs.length), (15, Ni (i + 1))] ?_
   refine gl_done rfl ?_
   refine rnd_end (g := (i, fr)) (i + 1, ((i : Nat) : Int)) (by kernel_rfl) ?_ ?_
   replace hH : Hp w w16 _ _ [_, _] := (hH.sublist (slk (slk sln)))
   · exact ⟨by omega, amiss_nx hall hq hfine, by rw [hfx, if_pos hisb]; rfl, hH⟩
   · show qs.length - (i + 1) < qs.length - i; omega
  have hisb : ¬ isBase q.pt = true := by rw [← hib, hc9]; simp
  refine sw_skip ?_
  refine bkN ?_
  refine sw_next ?_
  refine sw_region ?_
  refine glo 1 [(0, Pp g 0), (1, .slice Af0 qs.length cf), (6, .int .i64 fr), (13, .slice Af0 qs.length cf), (14, Ni qs.length), (64, .int .i64 (IntKind.i64.wrap (((i : Nat) : Int) + 1)))] ?_
  refine gl_cv 64 (Ni (i + 1)) (cv_i64 (by omega)) rfl ?_
  refine glo 1 [(0, Pp g 0), (1, .slice Af0 qs.length cf), (6, .int .i64 fr), (13, .slice Af0 qs.length cf), (14, Ni qs.length), (15, Ni (i + 1))] ?_
  refine gl_done rfl ?_
  refine rnd_end (g := (i, fr)) (i + 1, fr) (by kernel_rfl) ?_ ?_
  replace hH : Hp w w16 _ _ [_, _] := (hH.sublist (slk (slk sln)))
  · exact ⟨by omega, amiss_nx hall hq hfine, by rw [hfx, if_neg hisb]; exact hfr, hH⟩
  · show qs.length - (i + 1) < qs.length - i; omega
 try simp only [decide_eq_false_iff_not, Int.not_lt, Int.not_le] at hc1
 refine sw_exit ?_
 refine thX ?_
 refine thX ?_
 refine bkH ?_
 refine sw_next ?_
 refine sw_seq ?_
 have hie : qs.length ≤ i := by omega
 rw [List.take_of_length_le hie] at hfr
 have hokP := okP_all (fun j q hq => hall j (Nat.lt_of_lt_of_le (List.getElem?_eq_some_iff.1 hq).1 hie) q hq)
 refine sw_sr ?_
 refine glo 2 [(0, Pp g 0), (1, .slice Af0 qs.length cf), (6, .int .i64 fr), (66, .bool (decide ((fr : Int) < (0 : Int))))] ?_
 refine gl_dn rfl ?_
 refine sw_cond rfl rfl (fun hc10 => ?_) (fun hc10 => ?_)
 ·
  try simp only [decide_eq_true_eq] at hc10
  refine sw_sr ?_
  refine glo 3 [(4, .int .i64 0), (5, .iface 38 (.int .i64 90))] ?_
  refine gl_dn rfl ?_
  refine sw_ret ?_
  refine thR ?_
  refine ret2 rfl rfl rfl  ?_
  have hfn : fromP (qs.map PV.pt) = none := by
    cases hx : fromP (qs.map PV.pt) with
    | none => rfl
    | some f => rw [hx] at hfr; simp only [fromV] at hfr; omega
  exact .inl ⟨by unfold readL; rw [if_pos hokP, hfn]; rfl, rfl, (hH.sublist (List.nil_sublist _)).turned⟩
 try simp only [decide_eq_false_iff_not, Int.not_lt, Int.not_le] at hc10
 refine sw_skip ?_
 refine sw_next ?_
 refine sw_seq ?_
 obtain ⟨f, hf⟩ : ∃ f, fromP (qs.map PV.pt) = some f := by
   cases hx : fromP (qs.map PV.pt) with
   | none => rw [hx] at hfr; simp only [fromV] at hfr; omega
   | some f => exact ⟨f, rfl⟩
 rw [hf] at hfr
 obtain rfl : fr = ((f : Nat) : Int) := hfr
 obtain ⟨b0, hb0, hbase⟩ := fromP_at hf
 rw [List.getElem?_map] at hb0
 obtain ⟨q9, hq9, rfl⟩ := Option.map_eq_some_iff.1 hb0
 have hfl := (List.getElem?_eq_some_iff.1 hq9).1
 have hd0 : (qs.drop f)[0]? = some q9 := by rw [List.getElem?_drop]; exact hq9
 have hrl := readL_pv hokP hf
 have hPd : ∀ q ∈ qs.drop f, PvOk _ q := fun q hq => hP q (List.mem_of_mem_drop hq)
 have hdl : (qs.drop f).length = qs.length - f := List.length_drop ..
 have hrn2 := Nat.le_trans (recN_drop qs f) hrs
 refine sw_sr ?_
 obtain ⟨A9, hc9, hv9⟩ := hF.cut (by decide) f qs.length (by omega) (by omega)
 have hR9 := pv_drop (by omega) hv9
 refine glo 2 [(0, Pp g 0), (6, Ni f), (68, .slice Af0 qs.length cf), (69, Ni f)] ?_
 refine gl_q rfl rfl rfl (rd_cut (e := 106) (m := 4) (by kernel_rfl) (by kernel_rfl) rfl (.inr ⟨_, _, rfl, rfl⟩) (.inl ⟨rfl, rfl⟩) hc9) ?_
 refine gl_q rfl rfl rfl (rd_len (e := 106) (by kernel_rfl) rfl) ?_
 refine glo 1 [(0, Pp g 0), (6, Ni f), (70, .slice A9 (qs.length - f) (cf - f)), (71, Ni (qs.length - f)), (72, .int .i64 0)] ?_
 refine gl_dn rfl ?_
 refine sw_block ?_
 replace hH : Hp w w1 _ _ [_, _] := (hH.sublist (slk (slk sln)))
 refine sw_loop (γ := Nat × Cn × EQ × Option Addr × Nat × Pl) (fun (j, cx, es, Ae, ce, pk) => [(0, Pp g 0), (6, Ni f), (70, .slice A9 (qs.length - f) (cf - f)), (71, Ni (qs.length - f)), (72, Ni j)]) (fun (j, cx, es, Ae, ce, pk) w_ => (j ≤ (qs.drop f).length) ∧ (doAll Cn.zero (recsN (qs.drop f) j) true = some cx) ∧ (CnR pk cx es (.slice Ae es.length ce)) ∧ Hp w w_ (off w (blksOf [lgO g db Cn.zero (.slice none 0 0) fi lo bad, plO pl])) (blksOf [lgO g db Cn.zero (.slice none 0 0) fi lo bad, plO pl]) [.blk g 96 [Pp db 0, Ni cx.term, Ni cx.vote, Ni cx.ix, Ni cx.ah, .slice Ae es.length ce, .int .i64 fi, .int .i64 lo, bad], plO pk]) (fun (j, cx, es, Ae, ce, pk) => (qs.drop f).length - j) (0, Cn.zero, [], none, 0, pl) (Sub.of_eq (by kernel_rfl)) ?_ ?_
 · exact ⟨by omega, rfl, CnR.nil _ _ rfl, hH⟩
 clear hH
 rintro ⟨j, cx, es, Ae, ce, pk⟩ w17 ⟨hj, hdo, hL, hH⟩
 refine swk [(0, Pp g 0), (6, Ni f), (70, .slice A9 (qs.length - f) (cf - f)), (71, Ni (qs.length - f)), (72, Ni j)] ?_
 refine sw_sr ?_
 refine glo 1 [(0, Pp g 0), (6, Ni f), (70, .slice A9 (qs.length - f) (cf - f)), (71, Ni (qs.length - f)), (72, Ni j), (73, .bool (decide (((j : Nat) : Int) < ((qs.length - f : Nat) : Int))))] ?_
 refine gl_dn rfl ?_
 refine sw_seq ?_
 refine sw_cond rfl rfl (fun hc11 => ?_) (fun hc11 => ?_)
 ·
  try simp only [decide_eq_true_eq] at hc11
  refine sw_skip ?_
  refine sw_next ?_
  refine sw_seq ?_
  refine sw_block ?_
  obtain ⟨q, hq⟩ : ∃ q, (qs.drop f)[j]? = some q := ⟨_, List.getElem?_eq_getElem (by omega)⟩
  have hqok := hPd q (List.mem_of_getElem? hq)
  have qrow := hqok.row
  refine sw_sr ?_
  obtain ⟨p18, hi20, hp19⟩ := hR9.idx j (by omega) (by decide)
  refine glo 1 [(0, Pp g 0), (6, Ni f), (70, .slice A9 (qs.length - f) (cf - f)), (71, Ni (qs.length - f)), (72, Ni j), (74, Ni j)] ?_
  refine gl_q rfl rfl rfl (rd_idx (e := 106) (m := 4) (by kernel_rfl) (by kernel_rfl) rfl rfl hi20) ?_
  refine gl_q rfl rfl rfl (rd_loadZA (by kernel_rfl) hH hp19 rfl 0 rfl [Ni q.k, Ni q.whole, .bool q.more, .slice q.A q.rs.length q.cap] (by kernel_rfl) (rowC_all pvC_len hq 0 _ rfl)) ?_
  refine gl_st (st_allocH rfl rfl rfl (cs := [.int .i64 0, .int .i64 0, .bool false, .slice none 0 0]) (by kernel_rfl) hH ?_)
  clear hH; intro b21 w22 hH
  refine glo 1 [(0, Pp g 0), (6, Ni f), (9, Ni j), (10, Pp b21 0), (70, .slice A9 (qs.length - f) (cf - f)), (71, Ni (qs.length - f)), (72, Ni j), (76, .agg #[Ni q.k, Ni q.whole, .bool q.more, .slice q.A q.rs.length q.cap])] ?_
  refine gl_st (st_storeKA (vs := [Ni q.k, Ni q.whole, .bool q.more, .slice q.A q.rs.length q.cap]) 2 rfl rfl rfl hH rfl rfl (by kernel_rfl) (by kernel_rfl) rfl (by simp) [Ni q.k, Ni q.whole, .bool q.more, .slice q.A q.rs.length q.cap] rfl ?_)
  clear hH; intro w23 hH
  refine gl_dn rfl ?_
  refine sw_sr ?_
  refine glo 1 [(0, Pp g 0), (6, Ni f), (9, Ni j), (70, .slice A9 (qs.length - f) (cf - f)), (71, Ni (qs.length - f)), (72, Ni j), (77, Pp b21 3)] ?_
  refine gl_q rfl rfl rfl (rd_loadK 2 (by kernel_rfl) hH rfl rfl rfl) ?_
  refine gl_q rfl rfl rfl (rd_len (e := 113) (by kernel_rfl) rfl) ?_
  refine glo 1 [(0, Pp g 0), (6, Ni f), (9, Ni j), (70, .slice A9 (qs.length - f) (cf - f)), (71, Ni (qs.length - f)), (72, Ni j), (78, .slice q.A q.rs.length q.cap), (79, Ni q.rs.length), (80, .int .i64 0)] ?_
  refine gl_dn rfl ?_
  refine sw_block ?_
  replace hH : Hp w w23 _ _ [_, _] := (hH.sublist (slk (slk sln)))
  refine sw_loop (γ := Nat × Cn × EQ × Option Addr × Nat × Pl) (fun (k, cy, es2, Af, cf2, pm) => [(0, Pp g 0), (6, Ni f), (9, Ni j), (70, .slice A9 (qs.length - f) (cf - f)), (71, Ni (qs.length - f)), (72, Ni j), (78, .slice q.A q.rs.length q.cap), (79, Ni q.rs.length), (80, Ni k)]) (fun (k, cy, es2, Af, cf2, pm) w_ => (k ≤ q.rs.length) ∧ (doAll Cn.zero (recsN (qs.drop f) j ++ q.recs.take k) true = some cy) ∧ (CnR pm cy es2 (.slice Af es2.length cf2)) ∧ Hp w w_ (off w (blksOf [lgO g db Cn.zero (.slice none 0 0) fi lo bad, plO pl])) (blksOf [lgO g db Cn.zero (.slice none 0 0) fi lo bad, plO pl]) [.blk g 96 [Pp db 0, Ni cy.term, Ni cy.vote, Ni cy.ix, Ni cy.ah, .slice Af es2.length cf2, .int .i64 fi, .int .i64 lo, bad], plO pm]) (fun (k, cy, es2, Af, cf2, pm) => q.rs.length - k) (0, cx, es, Ae, ce, pk) (Sub.of_eq (by kernel_rfl)) ?_ ?_
  · exact ⟨by omega, by rw [List.take_zero, List.append_nil]; exact hdo, hL, hH⟩
  clear hH
  rintro ⟨k, cy, es2, Af, cf2, pm⟩ w24 ⟨hk, hdo2, hL2, hH⟩
  refine swk [(0, Pp g 0), (6, Ni f), (9, Ni j), (70, .slice A9 (qs.length - f) (cf - f)), (71, Ni (qs.length - f)), (72, Ni j), (78, .slice q.A q.rs.length q.cap), (79, Ni q.rs.length), (80, Ni k)] ?_
  refine sw_sr ?_
  refine glo 1 [(0, Pp g 0), (6, Ni f), (9, Ni j), (70, .slice A9 (qs.length - f) (cf - f)), (71, Ni (qs.length - f)), (72, Ni j), (78, .slice q.A q.rs.length q.cap), (79, Ni q.rs.length), (80, Ni k), (81, .bool (decide (((k : Nat) : Int) < ((q.rs.length : Nat) : Int))))] ?_
  refine gl_dn rfl ?_
  refine sw_seq ?_
  refine sw_cond rfl rfl (fun hc12 => ?_) (fun hc12 => ?_)
  ·
   try simp only [decide_eq_true_eq] at hc12
   refine sw_skip ?_
   refine sw_next ?_
   refine sw_seq ?_
   refine sw_block ?_
   obtain ⟨⟨r, vr⟩, hr⟩ : ∃ x, q.rs[k]? = some x := ⟨_, List.getElem?_eq_getElem (by omega)⟩
   have hrok := hqok.ok _ (List.mem_of_getElem? hr)
   obtain ⟨Ad, cd, hvr, _, _⟩ := hrok.1.row.form
   simp only at hvr
   subst hvr
   have hemp := recsN_empty hd0 hbase hq (show k ≤ q.rs.length by omega)
   have hcn := cnOk_len (cnOk_all cnOk_zero (recs_ok hPd hq k) hdo2)
   have hel := doAll_len hdo2
   have hrl2 := recs_len hq (show k ≤ q.rs.length by omega)
   have hl2 := hL2.len
   have hrl3 := hrl2
   rw [List.length_append, show (q.recs.take k).length = k by unfold PV.recs; rw [List.length_take, List.length_map]; omega] at hrl3
   have hdl2 : r.d.length ≤ 65536 := rcOk_dl hrok.2
   simp only [show Cn.zero.es.length = 0 from rfl, Nat.zero_add] at hel
   refine sw_sr ?_
   obtain ⟨p25, hi27, hp26⟩ := qrow.idx k (by omega) (by decide)
   refine glo 1 [(0, Pp g 0), (6, Ni f), (9, Ni j), (70, .slice A9 (qs.length - f) (cf - f)), (71, Ni (qs.length - f)), (72, Ni j), (78, .slice q.A q.rs.length q.cap), (79, Ni q.rs.length), (80, Ni k), (82, Ni k)] ?_
   refine gl_q rfl rfl rfl (rd_idx (e := 113) (m := 5) (by kernel_rfl) (by kernel_rfl) rfl rfl hi27) ?_
   refine gl_q rfl rfl rfl (rd_loadZA (by kernel_rfl) hH hp26 rfl 0 rfl [Ni r.k, Ni r.a, Ni r.b, Ni r.c, .slice Ad r.d.length cd] (by kernel_rfl) (rowC_all rcC_len hr 0 _ rfl)) ?_
   refine gl_st (st_allocH rfl rfl rfl (cs := [.int .i64 0, .int .i64 0, .int .i64 0, .int .i64 0, .slice none 0 0]) (by kernel_rfl) hH ?_)
   clear hH; intro b28 w29 hH
   refine glo 1 [(0, Pp g 0), (6, Ni f), (9, Ni j), (11, Ni k), (12, Pp b28 0), (70, .slice A9 (qs.length - f) (cf - f)), (71, Ni (qs.length - f)), (72, Ni j), (78, .slice q.A q.rs.length q.cap), (79, Ni q.rs.length), (80, Ni k), (84, .agg #[Ni r.k, Ni r.a, Ni r.b, Ni r.c, .slice Ad r.d.length cd])] ?_
   refine gl_st (st_storeKA (vs := [Ni r.k, Ni r.a, Ni r.b, Ni r.c, .slice Ad r.d.length cd]) 2 rfl rfl rfl hH rfl rfl (by kernel_rfl) (by kernel_rfl) rfl (by simp) [Ni r.k, Ni r.a, Ni r.b, Ni r.c, .slice Ad r.d.length cd] rfl ?_)
   clear hH; intro w30 hH
   refine gl_dn rfl ?_
   refine sw_seq ?_
   refine sw_draw (by kernel_rfl) (fun w_ => Hp w w_ (off w (blksOf [lgO g db Cn.zero (.slice none 0 0) fi lo bad, plO pl])) (blksOf [lgO g db Cn.zero (.slice none 0 0) fi lo bad, plO pl]) [.blk b28 113 [Ni r.k, Ni r.a, Ni r.b, Ni r.c, .slice Ad r.d.length cd]]) ?_
   replace hH := hH.drew
   generalize { w30 with drawn := w30.drawn + 1 } = w31 at hH ⊢
   have hS9 := hH.sublist (slc (slc (slk sln)))
   refine gdo 3 [0,1,2] [(0, Pp g 0), (6, Ni f), (9, Ni j), (11, Ni k), (12, Pp b28 0), (70, .slice A9 (qs.length - f) (cf - f)), (71, Ni (qs.length - f)), (72, Ni j), (78, .slice q.A q.rs.length q.cap), (79, Ni q.rs.length), (80, Ni k), (87, Pp g 1)] hS9 (PQ.th (PQ.bk (PQ.th (PQ.th (PQ.bk (PQ.bk (PQ.th (PQ.th (PQ.bk (PQ.th PQ.body)))))))))) ?_
   refine gdq 3 rfl (fun w_ hS => (rd_loadKA (m := 5) 0 (by kernel_rfl) hS rfl rfl (by kernel_rfl) [Ni r.k, Ni r.a, Ni r.b, Ni r.c, .slice Ad r.d.length cd] rfl rfl)) hS9 (PQ.th (PQ.bk (PQ.th (PQ.th (PQ.bk (PQ.bk (PQ.th (PQ.th (PQ.bk (PQ.th PQ.body)))))))))) ?_
   refine gdo 3 [4,5,6] [(0, Pp g 0), (6, Ni f), (9, Ni j), (70, .slice A9 (qs.length - f) (cf - f)), (71, Ni (qs.length - f)), (72, Ni j), (78, .slice q.A q.rs.length q.cap), (79, Ni q.rs.length), (80, Ni k), (87, Pp g 1), (88, .agg #[Ni r.k, Ni r.a, Ni r.b, Ni r.c, .slice Ad r.d.length cd]), (89, Ni j), (90, Ni k), (91, .int .i64 (IntKind.i64.wrap (((j : Nat) : Int) + ((k : Nat) : Int))))] hS9 (PQ.th (PQ.bk (PQ.th (PQ.th (PQ.bk (PQ.bk (PQ.th (PQ.th (PQ.bk (PQ.th PQ.body)))))))))) ?_
   refine gd_cv 91 (Ni (j + k)) (cv_i64 (by omega)) rfl ?_
   replace hH : Hp w w31 _ _ ([_, _] ++ [_]) := hH
   refine gdo 1 [7] [(0, Pp g 0), (6, Ni f), (9, Ni j), (70, .slice A9 (qs.length - f) (cf - f)), (71, Ni (qs.length - f)), (72, Ni j), (78, .slice q.A q.rs.length q.cap), (79, Ni q.rs.length), (80, Ni k), (87, Pp g 1), (88, .agg #[Ni r.k, Ni r.a, Ni r.b, Ni r.c, .slice Ad r.d.length cd]), (92, .bool (((j + k : Nat) : Int) == (0 : Int)))] hS9 (PQ.th (PQ.bk (PQ.th (PQ.th (PQ.bk (PQ.bk (PQ.th (PQ.th (PQ.bk (PQ.th PQ.body)))))))))) ?_
   refine gds 8 (st_call rfl rfl rfl (by kernel_rfl) rfl (Do_ct g db cy fi lo bad _ _ es2 pm r.k r.a r.b r.c r.d (((j + k : Nat) : Int) == (0 : Int)) _ hH.mine hL2 (hrok.1.mono hH.zoff) (by omega) (by omega) hrok.2.a hrok.2.b hrok.2.c (by omega)) ?_)
   rintro _ w32 ⟨bb, o2, rfl, hor, hF33⟩
   replace hH := hH.turns hF33; clear hF33
   replace hH : Hp w w32 _ _ [_, _] := hH
   have hbe : (((j + k : Nat) : Int) == (0 : Int)) = decide (j + k = 0) := by rw [Bool.eq_iff_iff, beq_iff_eq, decide_eq_true_eq]; omega
   rw [hbe] at hor
   replace hS9 := hH.sublist (slk sln)
   refine ⟨hS9, ?_⟩
   refine gdo 1 [9] [(0, Pp g 0), (6, Ni f), (9, Ni j), (70, .slice A9 (qs.length - f) (cf - f)), (71, Ni (qs.length - f)), (72, Ni j), (78, .slice q.A q.rs.length q.cap), (79, Ni q.rs.length), (80, Ni k), (94, .bool (!bb))] hS9 (PQ.th (PQ.bk (PQ.th (PQ.th (PQ.bk (PQ.bk (PQ.th (PQ.th (PQ.bk (PQ.th PQ.body)))))))))) ?_
   refine gdn [(0, Pp g 0), (6, Ni f), (9, Ni j), (70, .slice A9 (qs.length - f) (cf - f)), (71, Ni (qs.length - f)), (72, Ni j), (78, .slice q.A q.rs.length q.cap), (79, Ni q.rs.length), (80, Ni k), (94, .bool (!bb))] ?_
   refine sw_next ?_
   refine sw_cond rfl rfl (fun hc13 => ?_) (fun hc13 => ?_)
   ·
    try simp only [Bool.not_eq_true'] at hc13
    have hbb : bb = false := by simpa using hc13
    refine sw_sr ?_
    refine glo 3 [(4, .int .i64 0), (5, .iface 38 (.int .i64 90))] ?_
    refine gl_dn rfl ?_
    refine sw_ret ?_
    refine bkR ?_
    refine thR ?_
    refine thR ?_
    refine bkR ?_
    refine bkR ?_
    refine thR ?_
    refine thR ?_
    refine bkR ?_
    refine thR ?_
    refine ret2 rfl rfl rfl  ?_
    have h1 := (hor.resolve_right (fun h => by obtain ⟨_, _, _, _, _, h2, _⟩ := h; rw [h2] at hbb; cases hbb)).1
    have hnn : doAll Cn.zero ((qs.drop f).map PV.recs).flatten true = none := by
      obtain ⟨M, hM⟩ := recsN_split hq (k + 1)
      rw [hM]
      refine doAll_none ?_ (by rw [recs_next hr]; simp)
      rw [recs_next hr, ← List.append_assoc, doAll_snoc, hdo2]
      simp only [Option.bind_some, Bool.true_and, hemp]; exact h1
    exact .inl ⟨by rw [hrl, hnn]; rfl, rfl, (hH.sublist (List.nil_sublist _)).turned⟩
   try simp only [Bool.not_eq_false'] at hc13
   have hbb : bb = true := by simpa using hc13
   refine sw_skip ?_
   refine bkN ?_
   refine sw_next ?_
   obtain ⟨c3, es3, ve3, pl3, h1, _, h4, ho2⟩ := hor.resolve_left (fun h => by rw [h.2] at hbb; cases hbb)
   replace hH := hH.fr2
   obtain ⟨A3, ce3, rfl, _, _⟩ := h4.row.form
   replace hH := do_back ho2 hH
   replace hH : Hp w w32 _ _ [.blk g 96 [Pp db 0, Ni c3.term, Ni c3.vote, Ni c3.ix, Ni c3.ah, .slice A3 es3.length ce3, .int .i64 fi, .int .i64 lo, bad], plO pl3, .blk b28 113 [Ni r.k, Ni r.a, Ni r.b, Ni r.c, .slice Ad r.d.length cd]] := hH
   refine sw_region ?_
   refine glo 1 [(0, Pp g 0), (6, Ni f), (9, Ni j), (70, .slice A9 (qs.length - f) (cf - f)), (71, Ni (qs.length - f)), (72, Ni j), (78, .slice q.A q.rs.length q.cap), (79, Ni q.rs.length), (96, .int .i64 (IntKind.i64.wrap (((k : Nat) : Int) + 1)))] ?_
   refine gl_cv 96 (Ni (k + 1)) (cv_i64 (by omega)) rfl ?_
   refine glo 1 [(0, Pp g 0), (6, Ni f), (9, Ni j), (70, .slice A9 (qs.length - f) (cf - f)), (71, Ni (qs.length - f)), (72, Ni j), (78, .slice q.A q.rs.length q.cap), (79, Ni q.rs.length), (80, Ni (k + 1))] ?_
   refine gl_done rfl ?_
   refine rnd_end (g := (k, cy, es2, Af, cf2, pm)) (k + 1, c3, es3, A3, ce3, pl3) (by kernel_rfl) ?_ ?_
   replace hH : Hp w w32 _ _ [_, _] := (hH.sublist (slk (slk sln)))
   · exact ⟨by omega, by rw [recs_next hr, ← List.append_assoc, doAll_snoc, hdo2]; simp only [Option.bind_some, Bool.true_and, hemp]; exact h1, h4, hH⟩
   · show q.rs.length - (k + 1) < q.rs.length - k; omega
  try simp only [decide_eq_false_iff_not, Int.not_lt, Int.not_le] at hc12
  refine sw_exit ?_
  refine thX ?_
  refine thX ?_
  refine bkH ?_
  refine bkN ?_
  refine sw_next ?_
  refine sw_region ?_
  refine glo 1 [(0, Pp g 0), (6, Ni f), (70, .slice A9 (qs.length - f) (cf - f)), (71, Ni (qs.length - f)), (97, .int .i64 (IntKind.i64.wrap (((j : Nat) : Int) + 1)))] ?_
  refine gl_cv 97 (Ni (j + 1)) (cv_i64 (by omega)) rfl ?_
  refine glo 1 [(0, Pp g 0), (6, Ni f), (70, .slice A9 (qs.length - f) (cf - f)), (71, Ni (qs.length - f)), (72, Ni (j + 1))] ?_
  refine gl_done rfl ?_
  refine rnd_end (g := (j, cx, es, Ae, ce, pk)) (j + 1, cy, es2, Af, cf2, pm) (by kernel_rfl) ?_ ?_
  replace hH : Hp w w24 _ _ [_, _] := (hH.sublist (slk (slk sln)))
  · exact ⟨by omega, by rw [recsN_next hq]; have h8 := hdo2; rwa [List.take_of_length_le (by unfold PV.recs; rw [List.length_map]; omega)] at h8, hL2, hH⟩
  · show (qs.drop f).length - (j + 1) < (qs.drop f).length - j; omega
 try simp only [decide_eq_false_iff_not, Int.not_lt, Int.not_le] at hc11
 refine sw_exit ?_
 refine thX ?_
 refine thX ?_
 refine bkH ?_
 refine sw_next ?_
 refine sw_sr ?_
 refine glo 3 [(4, Ni f), (5, .nilIface)] ?_
 refine gl_dn rfl ?_
 refine sw_ret ?_
 refine ret2 rfl rfl rfl  ?_
 replace hH : Hp w w17 _ _ [_, _] := (hH.sublist (slk (slk sln)))
 have hje : (qs.drop f).length ≤ j := by omega
 rw [recsN_all _ hje] at hdo
 exact .inr ⟨f, cx, es, _, pk, by rw [hrl, hdo]; rfl, rfl, hL, hH.turned⟩
end Go.Proofs.YtajapgjemefoiaaGreatDoor
/- Layer 19 (wal): all that a log says is put into a file: what it answers. -/
set_option maxRecDepth 100000
set_option maxHeartbeats 4000000
set_option linter.unusedVariables false
set_option linter.unusedSimpArgs false
namespace Go.Proofs.YtajapgjemefoiaaGreatDoor
open Go.RowKit Go.SW
theorem allB {c : Cn} {es : EQ} (h : es.map (·.1) = c.es) : recB ⟨3, c.ix, c.ah, 0, []⟩ ++ recB ⟨1, c.term, c.vote, 0, []⟩ ++ enB es = recsB (allR c) := by
  unfold enB allR
  rw [← h, List.map_map, List.append_assoc]
  rfl
theorem enok_off {c : Zone} {pl : Pl} {cn : Cn} {es : EQ} {ve : Value} (h : CnR pl cn es ve) (hl : (pz pl).le c) : ∀ q ∈ es, EnOk c q := fun q hq => by
  obtain ⟨⟨h1, h2, h3, h4⟩, _⟩ := h.ok q hq
  exact ⟨h1.mono hl, h2, h3, h4⟩

theorem nameF_short (k : Nat) (hk : k < 9223372036854775808) : (nameF k).length ≤ 24 := by
  rw [nameF_len, show (decB k).length = Lib.nDigits k from Lib.decDigits_length k]
  have := nDig_le 20 k (by omega)
  omega
def BeginPost (g db mb ab : Nat) (c : Cn) (fi lo : Int) (bad ve : Value) (pl : Pl) (D : Dsk) (pe : List PE) (k : Nat) (w : World) (v : Value) (w' : World) : Prop :=
  ∃ pe', v = errV (doD D 2 (nameF k) (recsB (allR c)) 0).2 ∧ Rep pe' (doD D 2 (nameF k) (recsB (allR c)) 0).1.fs ∧
    Turn w w' [lgO g db c ve fi lo bad, plO pl, .grp (dskO db mb ab D pe)] [lgO g db c ve ((k : Nat) : Int) (((recsB (allR c)).length : Nat) : Int) bad, plO pl, .grp (dskO db mb ab (doD D 2 (nameF k) (recsB (allR c)) 0).1 pe')]

theorem Begin_ct (g db mb ab k : Nat) (c : Cn) (fi lo : Int) (bad ve : Value) (es : EQ) (pl : Pl) (D : Dsk) (pe : List PE) (M : Nat) (w : World) (hM : Mine w [lgO g db c ve fi lo bad, plO pl, .grp (dskO db mb ab D pe)]) (hL : CnR pl c es ve) (hR : Rep pe D.fs) (hA : ArOk D.ar) (hG : Good D.fs M) (hMM : M ≤ 140737488355328) (hc : CnOk c) (hbl : (recsB (allR c)).length ≤ 1073741824) (hn : es.length ≤ 1000000) (hk : k < 9223372036854775808) (hT : KOk w (blksOf [lgO g db c ve fi lo bad, plO pl, .grp (dskO db mb ab D pe)]) k) :
    Fun Tryz.prog 41 [.pointer (some ⟨g, 0, none⟩), .int .i64 ((k : Nat) : Int)] w fun v w' => BeginPost g db mb ab c fi lo bad ve pl D pe k w v w' := by
 obtain ⟨Ae, ce, rfl, he1, he2⟩ := hL.row.form
 have hc1 := hc.term
 have hc2 := hc.vote
 have hc3 := hc.ix
 have hc4 := hc.ah
 have hlb := congrArg List.length (allB hL.fst)
 simp only [List.length_append] at hlb
 refine fun_of_sw Tryz.func41 rfl 56 rfl rfl ?_
 have hH := Hp.start_mine hM
 refine sw_sr ?_
 refine glo 1 [(0, Pp g 0), (1, Ni k)] ?_
 refine gl_dn rfl ?_
 refine sw_seq ?_
 refine sw_draw (by kernel_rfl) (fun w_ => Hp w w_ (off w (blksOf [lgO g db c (.slice Ae es.length ce) fi lo bad, plO pl, .grp (dskO db mb ab D pe)])) (blksOf [lgO g db c (.slice Ae es.length ce) fi lo bad, plO pl, .grp (dskO db mb ab D pe)]) [.blk g 96 [Pp db 0, Ni c.term, Ni c.vote, Ni c.ix, Ni c.ah, .slice Ae es.length ce, .int .i64 fi, .int .i64 lo, bad], plO pl, .grp (dskO db mb ab D pe)]) ?_
 replace hH := hH.drew
 generalize { w with drawn := w.drawn + 1 } = w1 at hH ⊢
 have hS9 := hH.sublist (slk (slk (slk sln)))
 refine gdo 4 [0,1,2,3] [(0, Pp g 0), (1, Ni k), (9, Pp g 3)] hS9 (PQ.th PQ.body) ?_
 refine gdq 4 rfl (fun w_ hS => (rd_loadK 0 (by kernel_rfl) hS rfl rfl rfl)) hS9 (PQ.th PQ.body) ?_
 refine gdo 4 [5,6,7,8] [(0, Pp g 0), (1, Ni k), (10, Ni c.ix), (14, Pp g 4)] hS9 (PQ.th PQ.body) ?_
 refine gdq 9 rfl (fun w_ hS => (rd_loadK 0 (by kernel_rfl) hS rfl rfl rfl)) hS9 (PQ.th PQ.body) ?_
 refine gdo 1 [10] [(0, Pp g 0), (1, Ni k), (16, .agg #[.int .i64 3, Ni c.ix, Ni c.ah, .int .i64 0, .slice none 0 0])] hS9 (PQ.th PQ.body) ?_
 refine gds 11 (st_call rfl rfl rfl (by kernel_rfl) rfl (RecFrame_ct 3 c.ix c.ah 0 _ [] _ (RB.nil _) (by omega) (by omega) (by omega) (by omega)) ?_)
 rintro _ w4 ⟨v2, rfl, hF5⟩
 replace hH := hH.call hF5; clear hF5
 obtain ⟨A6, c7, rfl, hl8, hm9⟩ := hH.row_form 3 rfl
 replace hS9 := hH.sublist (slk (slk (slk sln)))
 refine ⟨hS9, ?_⟩
 refine gdo 1 [12] [(0, Pp g 0), (1, Ni k), (5, .slice A6 ((recB ⟨3, c.ix, c.ah, 0, []⟩).length) c7)] hS9 (PQ.th PQ.body) ?_
 refine gdn [(0, Pp g 0), (1, Ni k), (5, .slice A6 ((recB ⟨3, c.ix, c.ah, 0, []⟩).length) c7)] ?_
 refine sw_next ?_
 refine sw_seq ?_
 refine sw_draw (by kernel_rfl) (fun w_ => Hp w w_ (off w (blksOf [lgO g db c (.slice Ae es.length ce) fi lo bad, plO pl, .grp (dskO db mb ab D pe)])) (blksOf [lgO g db c (.slice Ae es.length ce) fi lo bad, plO pl, .grp (dskO db mb ab D pe)]) [.blk g 96 [Pp db 0, Ni c.term, Ni c.vote, Ni c.ix, Ni c.ah, .slice Ae es.length ce, .int .i64 fi, .int .i64 lo, bad], plO pl, .grp (dskO db mb ab D pe)]) ?_
 replace hH := hH.drew
 generalize { w4 with drawn := w4.drawn + 1 } = w10 at hH ⊢
 have hS9 := hH.sublist (slk (slk (slk sln)))
 refine gdo 5 [0,1,2,3,4] [(0, Pp g 0), (1, Ni k), (5, .slice A6 ((recB ⟨3, c.ix, c.ah, 0, []⟩).length) c7), (18, .slice A6 ((recB ⟨3, c.ix, c.ah, 0, []⟩).length) c7), (22, Pp g 1)] hS9 (PQ.th PQ.body) ?_
 refine gdq 5 rfl (fun w_ hS => (rd_loadK 0 (by kernel_rfl) hS rfl rfl rfl)) hS9 (PQ.th PQ.body) ?_
 refine gdo 4 [6,7,8,9] [(0, Pp g 0), (1, Ni k), (5, .slice A6 ((recB ⟨3, c.ix, c.ah, 0, []⟩).length) c7), (18, .slice A6 ((recB ⟨3, c.ix, c.ah, 0, []⟩).length) c7), (23, Ni c.term), (27, Pp g 2)] hS9 (PQ.th PQ.body) ?_
 refine gdq 10 rfl (fun w_ hS => (rd_loadK 0 (by kernel_rfl) hS rfl rfl rfl)) hS9 (PQ.th PQ.body) ?_
 refine gdo 1 [11] [(0, Pp g 0), (1, Ni k), (5, .slice A6 ((recB ⟨3, c.ix, c.ah, 0, []⟩).length) c7), (18, .slice A6 ((recB ⟨3, c.ix, c.ah, 0, []⟩).length) c7), (29, .agg #[.int .i64 1, Ni c.term, Ni c.vote, .int .i64 0, .slice none 0 0])] hS9 (PQ.th PQ.body) ?_
 refine gds 12 (st_call rfl rfl rfl (by kernel_rfl) rfl (RecFrame_ct 1 c.term c.vote 0 _ [] _ (RB.nil _) (by omega) (by omega) (by omega) (by omega)) ?_)
 rintro _ w13 ⟨v11, rfl, hF14⟩
 replace hH := hH.call hF14; clear hF14
 obtain ⟨A15, c16, rfl, hl17, hm18⟩ := hH.row_form 4 rfl
 replace hS9 := hH.sublist (slk (slk (slk sln)))
 refine ⟨hS9, ?_⟩
 refine gds 13 (st_appH (e := 5) (zv := .int .u8 0) (m := 1) (bytes := 1) 3 rfl rfl rfl (by kernel_rfl) (by kernel_rfl) rfl (by decide) hH rfl rfl rfl (hH.row_reads 4 rfl) (bv_one _) (by unfold maxLen; omega) (by omega) ?_)
 clear hH; intro v19 w20 hH
 replace hH := hH.row_eq 3 (l' := ((recB ⟨3, c.ix, c.ah, 0, []⟩) ++ (recB ⟨1, c.term, c.vote, 0, []⟩)).length) (xs' := bv ((recB ⟨3, c.ix, c.ah, 0, []⟩) ++ (recB ⟨1, c.term, c.vote, 0, []⟩))) rfl (by simp only [List.length_append, List.length_cons, List.length_nil] <;> omega) ((bv_append _ _).symm)
 obtain ⟨A21, c22, rfl, hl23, hm24⟩ := hH.row_form 3 rfl
 replace hS9 := hH.sublist (slk (slk (slk sln)))
 refine ⟨hS9, ?_⟩
 refine gdo 1 [14] [(0, Pp g 0), (1, Ni k), (5, .slice A21 (((recB ⟨3, c.ix, c.ah, 0, []⟩) ++ (recB ⟨1, c.term, c.vote, 0, []⟩)).length) c22)] hS9 (PQ.th PQ.body) ?_
 refine gdn [(0, Pp g 0), (1, Ni k), (5, .slice A21 (((recB ⟨3, c.ix, c.ah, 0, []⟩) ++ (recB ⟨1, c.term, c.vote, 0, []⟩)).length) c22)] ?_
 refine sw_next ?_
 refine sw_sr ?_
 refine glo 5 [(0, Pp g 0), (1, Ni k), (32, .slice A21 (((recB ⟨3, c.ix, c.ah, 0, []⟩) ++ (recB ⟨1, c.term, c.vote, 0, []⟩)).length) c22), (36, Pp g 5)] ?_
 refine gl_q rfl rfl rfl (rd_loadK 0 (by kernel_rfl) hH rfl rfl rfl) ?_
 replace hH : Hp w w20 _ _ ([_] ++ [_, _, _, _]) := hH.fr4
 refine gl_st (st_call rfl rfl rfl (by kernel_rfl) rfl (Frames_ct _ _ ((recB ⟨3, c.ix, c.ah, 0, []⟩) ++ (recB ⟨1, c.term, c.vote, 0, []⟩)) es _ hH.mine (hL.row.mono (pz_off hH 1 rfl)) (enok_off hL (pz_off hH 1 rfl)) (by simp only [List.length_append] at *; omega) (by omega)) ?_)
 rintro _ w26 ⟨v25, rfl, hF27⟩
 replace hH := hH.turns hF27; clear hF27
 replace hH : Hp w w26 _ _ [_, _, _, _, _] := hH
 obtain ⟨A28, c29, rfl, hl30, hm31⟩ := hH.row_form 4 rfl
 refine glo 1 [(0, Pp g 0), (1, Ni k), (5, .slice A28 ((((recB ⟨3, c.ix, c.ah, 0, []⟩) ++ (recB ⟨1, c.term, c.vote, 0, []⟩)) ++ enB es).length) c29)] ?_
 refine gl_dn rfl ?_
 refine sw_sr ?_
 refine glo 4 [(0, Pp g 0), (1, Ni k), (5, .slice A28 ((((recB ⟨3, c.ix, c.ah, 0, []⟩) ++ (recB ⟨1, c.term, c.vote, 0, []⟩)) ++ enB es).length) c29), (39, Pp g 0), (40, Pp g 0), (41, Ni k), (42, .slice A28 ((((recB ⟨3, c.ix, c.ah, 0, []⟩) ++ (recB ⟨1, c.term, c.vote, 0, []⟩)) ++ enB es).length) c29)] ?_
 refine gl_q rfl rfl rfl (rd_len (e := 5) (by kernel_rfl) rfl) ?_
 refine gl_cv 43 (Ni ((recsB (allR c)).length)) (by rw [← allB hL.fst]) rfl ?_
 refine glo 2 [(0, Pp g 0), (1, Ni k), (5, .slice A28 ((((recB ⟨3, c.ix, c.ah, 0, []⟩) ++ (recB ⟨1, c.term, c.vote, 0, []⟩)) ++ enB es).length) c29), (40, Pp g 0), (41, Ni k), (43, Ni ((recsB (allR c)).length)), (45, Pp g 6)] ?_
 refine gl_st (st_storeK (v := Ni k) 0 rfl rfl rfl hH rfl rfl rfl (by kernel_rfl) rfl (by simp) ?_)
 clear hH; intro w32 hH
 refine glo 2 [(0, Pp g 0), (1, Ni k), (5, .slice A28 ((((recB ⟨3, c.ix, c.ah, 0, []⟩) ++ (recB ⟨1, c.term, c.vote, 0, []⟩)) ++ enB es).length) c29), (43, Ni ((recsB (allR c)).length)), (47, Pp g 7)] ?_
 refine gl_st (st_storeK (v := Ni ((recsB (allR c)).length)) 0 rfl rfl rfl hH rfl rfl rfl (by kernel_rfl) rfl (by simp) ?_)
 clear hH; intro w33 hH
 refine gl_dn rfl ?_
 refine sw_seq ?_
 refine sw_draw (by kernel_rfl) (fun w_ => Hp w w_ (off w (blksOf [lgO g db c (.slice Ae es.length ce) fi lo bad, plO pl, .grp (dskO db mb ab D pe)])) (blksOf [lgO g db c (.slice Ae es.length ce) fi lo bad, plO pl, .grp (dskO db mb ab D pe)]) [.blk g 96 [Pp db 0, Ni c.term, Ni c.vote, Ni c.ix, Ni c.ah, .slice Ae es.length ce, Ni k, Ni ((recsB (allR c)).length), bad], plO pl, .row (.slice A15 ((recB ⟨1, c.term, c.vote, 0, []⟩).length) c16) 5 1 ((recB ⟨1, c.term, c.vote, 0, []⟩).length) (bv (recB ⟨1, c.term, c.vote, 0, []⟩))]) ?_
 replace hH := hH.drew
 generalize { w33 with drawn := w33.drawn + 1 } = w34 at hH ⊢
 have hS9 := hH.sublist (slk (slk (slc (slk sln))))
 refine gdo 3 [0,1,2] [(1, Ni k), (5, .slice A28 ((((recB ⟨3, c.ix, c.ah, 0, []⟩) ++ (recB ⟨1, c.term, c.vote, 0, []⟩)) ++ enB es).length) c29), (50, Pp g 0)] hS9 (PQ.th PQ.body) ?_
 refine gdq 3 rfl (fun w_ hS => (rd_loadK 0 (by kernel_rfl) hS rfl rfl rfl)) hS9 (PQ.th PQ.body) ?_
 refine gdo 2 [4,6] [(51, Pp db 0), (52, Ni k), (54, .slice A28 ((((recB ⟨3, c.ix, c.ah, 0, []⟩) ++ (recB ⟨1, c.term, c.vote, 0, []⟩)) ++ enB es).length) c29)] hS9 (PQ.th PQ.body) ?_
 refine gds 5 (st_call rfl rfl rfl (by kernel_rfl) rfl (Name_ct k _ hk (hT.now hH)) ?_)
 rintro _ w35 ⟨rfl, hF36⟩
 replace hH := hH.call hF36; clear hF36
 replace hS9 := hH.sublist (slk (slk (slc (slk sln))))
 refine ⟨hS9, ?_⟩
 have hab : (recB ⟨3, c.ix, c.ah, 0, []⟩ ++ recB ⟨1, c.term, c.vote, 0, []⟩) ++ enB es = recsB (allR c) := allB hL.fst
 replace hH := hH.row_eq 4 (l' := (recsB (allR c)).length) (xs' := bv (recsB (allR c))) rfl (by rw [hab]) (by rw [hab])
 replace hH : Hp w w35 _ _ ([_] ++ [_, _, _, _]) := hH.fr3
 refine gds 7 (st_call rfl rfl rfl (by kernel_rfl) rfl (DPut_ct db mb ab D pe (nameF k) _ (recsB (allR c)) M _ hH.mine hR hA hG (by omega) (by have := nameF_short k hk; omega) (zoff_row (mine := [.grp (dskO db mb ab D pe)]) hH 3 rfl) (by omega)) ?_)
 rintro _ w37 ⟨pe2, rfl, hR2, hF38⟩
 replace hH := hH.turns hF38; clear hF38
 replace hH : Hp w w37 _ _ [_, _, _, _, _] := hH
 replace hS9 := hH.sublist (slk (slk (slk sln)))
 refine ⟨hS9, ?_⟩
 refine gdo 1 [8] [(4, errV ((doD D 2 (nameF k) (recsB (allR c)) 0).2))] hS9 (PQ.th PQ.body) ?_
 refine gdn [(4, errV ((doD D 2 (nameF k) (recsB (allR c)) 0).2))] ?_
 refine sw_next ?_
 refine sw_ret ?_
 refine ret1 rfl rfl  ?_
 replace hH := hH.fr5.fr3.fr3
 replace hH : Hp w w37 _ _ [_, _, _] := (hH.sublist (slk (slk (slk sln))))
 exact ⟨pe2, rfl, hR2, hH.turned⟩
end Go.Proofs.YtajapgjemefoiaaGreatDoor
/- errors.Is at an error of the kind api.Errno or at an *api.Fault that holds one, any code the target: what it answers. Plain theorems. -/
set_option maxRecDepth 1000000
set_option linter.unusedVariables false
set_option linter.unusedSimpArgs false
namespace Go.Proofs.YtajapgjemefoiaaGreatDoor
open Go.RowKit Go.Extern.Stop Go.Stop Go.Extern Go.SW
theorem noIsF (v : Value) (xT : TypeId) (w : World) : (Instr.typeAssert (.iface 178 v) xT 188 true).run Tryz.prog w = .ok (.tuple #[.nilIface, .bool false]) w := run_typeAssert_lacksB Tryz.underlying188 (by kernel_rfl) (by kernel_rfl) v xT w
theorem hasUnwrapF (v : Value) (xT : TypeId) (w : World) : (Instr.typeAssert (.iface 178 v) xT 191 true).run Tryz.prog w = .ok (.tuple #[.iface 178 v, .bool true]) w := run_typeAssert_hasB Tryz.underlying191 (by kernel_rfl) v xT w
theorem methodUnwrapF (v : Value) (w : World) : (Go.method 384 178 v "Unwrap").run Tryz.prog w = .ok (199, v) w := by kernel_rfl
set_option maxHeartbeats 8000000 in
theorem is_fault (fb : Nat) (w : World) (hcell : w.cell? ⟨fb, 0, none⟩ = some (.int .i64 90)) :
    Calls Tryz.prog 43 #[.iface 178 (.pointer (some ⟨fb, 0, none⟩)), .iface 38 (.int .i64 90)] w fun e w' => e = .returned (.bool true) ∧ w' = w := by
  have h8 := @run_callFunc_extern Tryz.prog 73 _ Extern.ReflectliteType.typeOf Tryz.func73 (by kernel_rfl) (by kernel_rfl) (by kernel_rfl) (by kernel_rfl)
  have h32 := @run_callFunc_extern Tryz.prog 202 _ (Extern.ReflectliteType.method fun t => do Rtype.noPackHeld "Comparable" t; pure (.bool (← typeInfo t).comparable)) Tryz.func202 (by kernel_rfl) (by kernel_rfl) (by kernel_rfl) (by kernel_rfl)
  have tT := typeOfE
  have cT := isComparableE
  have mR := isMethodComparable
  have nF := noIsF
  have uF := hasUnwrapF
  have mU := methodUnwrapF
  have hty := run_eql_iface_types (P := Tryz.prog) 178 38 (.pointer (some ⟨fb, 0, none⟩)) (.int .i64 90) Tryz.underlying35 (by decide) w
  have heq := eqE 90 90 w
  rw [show ((90 : Int) == 90) = true from rfl] at heq
  go_enter Tryz.func43, Tryz.ntmps43
  go_wp2
  refine wp_loop_rounds 2 ?_
  rw [rounds_succ]
  go_wp2
  rw [rounds_succ]
  go_wp2
  go_ret
  exact ⟨rfl, rfl⟩
theorem IsN_ct (e t : Nat) (ht : t ≠ 0) (w : World) :
    Fun Tryz.prog 43 [errV e, .iface 38 (.int .i64 ((t : Nat) : Int))] w fun v w' => v = .bool (e == t) ∧ Fresh w w' [] := by
  by_cases h : e = 0
  · subst h
    refine Calls.mono (is_nil ((t : Nat) : Int) w) ?_
    rintro ev w' ⟨rfl, rfl⟩
    exact ⟨_, rfl, by rw [show (0 == t) = false from by simpa using Ne.symm ht], (Hp.start _).fresh⟩
  · have hb : (((e : Nat) : Int) == ((t : Nat) : Int)) = (e == t) := by
      rw [Bool.eq_iff_iff, beq_iff_eq, beq_iff_eq]; omega
    rw [show errV e = .iface 38 (.int .i64 ((e : Nat) : Int)) by unfold errV errW; rw [if_neg h]]
    refine Calls.mono (is_errno _ ((e : Nat) : Int) ((t : Nat) : Int) w hb) ?_
    rintro ev w' ⟨rfl, rfl⟩
    exact ⟨_, rfl, rfl, (Hp.start _).fresh⟩
theorem IsF_ct (fb : Nat) (w : World) (hcell : w.cell? ⟨fb, 0, none⟩ = some (.int .i64 90)) :
    Fun Tryz.prog 43 [.iface 178 (.pointer (some ⟨fb, 0, none⟩)), .iface 38 (.int .i64 90)] w fun v w' => v = .bool true ∧ Fresh w w' [] := by
  refine Calls.mono (is_fault fb w hcell) ?_
  rintro ev w' ⟨rfl, rfl⟩
  exact ⟨_, rfl, rfl, (Hp.start _).fresh⟩
end Go.Proofs.YtajapgjemefoiaaGreatDoor
/- Layer 19 (wal): a log is opened: what it answers. -/
set_option maxRecDepth 100000
set_option maxHeartbeats 4000000
set_option linter.unusedVariables false
set_option linter.unusedSimpArgs false
namespace Go.Proofs.YtajapgjemefoiaaGreatDoor
open Go.RowKit Go.SW
def faultO (bad : Bool) (fb : Nat) : Own := .grp (bif bad then [.blk fb 180 [.int .i64 90, .int .i64 0]] else [])
def PartsPost (db mb ab : Nat) (D : Dsk) (es : List PE) (w : World) (v : Value) (w' : World) : Prop :=
  ∃ bad fb vf ds pl, v = .tuple #[vf, ifW (!bad) 178 (.pointer (some ⟨fb, 0, none⟩))] ∧ ((bad = true ∧ partsF D.fs = none ∧ ds = []) ∨ (bad = false ∧ (partsF D.fs).map sortP = some (ds.map PV.pt))) ∧ (∀ q ∈ ds, PvOk (pz pl) q) ∧
    Turn w w' [.grp (dskO db mb ab D es)] [.grp (dskO db mb ab D es), .row vf 106 4 ds.length (rowC pvC ds), plO pl, faultO bad fb]
theorem PartsP_ct (db mb ab : Nat) (D : Dsk) (es : List PE) (M : Nat) (w : World) (hM : Mine w [.grp (dskO db mb ab D es)]) (hR : Rep es D.fs) (hG : Good D.fs M) (hMM : M ≤ 4294967296) (hN : D.fs.length ≤ 1000) :
    Fun Tryz.prog 40 [.pointer (some ⟨db, 0, none⟩)] w fun v w' => PartsPost db mb ab D es w v w' := by
  refine (Parts_ct db mb ab D es M w hM hR hG hMM hN).mono ?_
  rintro v w' (⟨fb, h1, rfl, h2⟩ | ⟨vf, ds, pl, h1, rfl, h2, h3⟩)
  · refine ⟨true, fb, .slice none 0 0, [], [], rfl, .inl ⟨rfl, h1, rfl⟩, (fun q hq => by cases hq), ?_⟩
    have h3 : Hp w w' (fun _ => none) (blksOf [.grp (dskO db mb ab D es)]) [.blk fb 180 [.int .i64 90, .int .i64 0], .grp (dskO db mb ab D es), .row (.slice none 0 0) 106 4 0 [], plO []] := ((Hp.nilRow h2 106 4).pool).pick [1, 0, 2, 3] (by kernel_rfl) rfl
    exact (Hp.close (l := [.blk fb 180 [.int .i64 90, .int .i64 0]]) h3).pick [1, 2, 3, 0] (by kernel_rfl) rfl
  · exact ⟨false, 0, vf, ds, pl, rfl, .inr ⟨rfl, h1⟩, h2, Hp.nogrp h3⟩
def LReadPost (g db : Nat) (fi lo : Int) (bad : Value) (qs : List PV) (pl : Pl) (w : World) (v : Value) (w' : World) : Prop :=
  ∃ i e o2, v = .tuple #[.int .i64 ((i : Nat) : Int), errV e] ∧ ((readL (qs.map PV.pt) = none ∧ e = 90) ∨ (∃ c2 es2 ve2 pl2, readL (qs.map PV.pt) = some (i, c2) ∧ e = 0 ∧ CnR pl2 c2 es2 ve2 ∧ o2 = [lgO g db c2 ve2 fi lo bad, plO pl2])) ∧
    Turn w w' [lgO g db Cn.zero (.slice none 0 0) fi lo bad, plO pl] [.grp o2]
theorem LReadP_ct (g db : Nat) (fi lo : Int) (bad vf : Value) (qs : List PV) (pl : Pl) (Zp : Zone) (w : World) (hM : Mine w [lgO g db Cn.zero (.slice none 0 0) fi lo bad, plO pl]) (hZ : Zp.le (off w (blksOf [lgO g db Cn.zero (.slice none 0 0) fi lo bad, plO pl]))) (hF : Row (off w (blksOf [lgO g db Cn.zero (.slice none 0 0) fi lo bad, plO pl])) vf 4 qs.length (rowC pvC qs)) (hP0 : ∀ q ∈ qs, PvOk Zp q) (hn : qs.length ≤ 1000) (hrs : recN qs ≤ 1000000) :
    Fun Tryz.prog 42 [.pointer (some ⟨g, 0, none⟩), vf] w fun v w' => LReadPost g db fi lo bad qs pl w v w' := by
  refine (LRead_ct g db fi lo bad vf qs pl Zp w hM hZ hF hP0 hn hrs).mono ?_
  rintro v w' (⟨h1, rfl, h2⟩ | ⟨i, c2, es2, ve2, pl2, h1, rfl, h2, h3⟩)
  · exact ⟨0, 90, [], rfl, .inl ⟨h1, rfl⟩, Hp.close (l := []) (r := []) h2⟩
  · exact ⟨i, 0, _, rfl, .inr ⟨c2, es2, ve2, pl2, h1, rfl, h2, rfl⟩, Hp.close (r := []) (by rw [List.append_nil]; exact h3)⟩
theorem parts_few {D : Dsk} {bad : Bool} {ds : List PV} (h : (bad = true ∧ partsF D.fs = none ∧ ds = []) ∨ (bad = false ∧ (partsF D.fs).map sortP = some (ds.map PV.pt))) : ds.length ≤ D.fs.length := by
  rcases h with ⟨_, _, h⟩ | ⟨_, h⟩
  · rw [h]; simp
  · obtain ⟨p0, h3, h4⟩ := Option.map_eq_some_iff.1 h
    have h5 := congrArg List.length h4
    rw [show (sortP p0).length = p0.length from List.length_mergeSort _, List.length_map] at h5
    have := partsF_len h3
    omega
def openT (D : Dsk) (ps : List Pt) (i : Nat) (c : Cn) : Dsk × Option Lg × Nat :=
  if (remAll D ((ps.take i).map (·.k))).2 ≠ 0 then ((remAll D ((ps.take i).map (·.k))).1, none, (remAll D ((ps.take i).map (·.k))).2) else
  let R2 := if (lastP ps).more = true then doD (remAll D ((ps.take i).map (·.k))).1 3 (nameF (lastP ps).k) [] (lastP ps).whole else ((remAll D ((ps.take i).map (·.k))).1, 0)
  if R2.2 ≠ 0 then (R2.1, none, R2.2) else
  if (doD R2.1 1 (nameF (lastP ps).k) [] 0).2 ≠ 0 then ((doD R2.1 1 (nameF (lastP ps).k) [] 0).1, none, (doD R2.1 1 (nameF (lastP ps).k) [] 0).2) else ((doD R2.1 1 (nameF (lastP ps).k) [] 0).1, some ⟨c, (lastP ps).k, (lastP ps).whole, 0⟩, 0)
section
variable {D : Dsk} {ps : List Pt}
theorem openL_down (h : D.off = true) : openL D = (D, none, 80) := by unfold openL; rw [if_pos h]
theorem openL_bad (h : ¬ D.off = true) (h2 : partsF D.fs = none) : openL D = (D, none, 90) := by unfold openL; rw [if_neg h, h2]
theorem openL_new (h : ¬ D.off = true) (h2 : (partsF D.fs).map sortP = some []) : openL D = if (doD D 2 (nameF 1) (recsB (allR Cn.zero)) 0).2 ≠ 0 then ((doD D 2 (nameF 1) (recsB (allR Cn.zero)) 0).1, none, (doD D 2 (nameF 1) (recsB (allR Cn.zero)) 0).2) else ((doD D 2 (nameF 1) (recsB (allR Cn.zero)) 0).1, some ⟨Cn.zero, 1, (recsB (allR Cn.zero)).length, 0⟩, 0) := by
  obtain ⟨p0, h3, h4⟩ := Option.map_eq_some_iff.1 h2
  unfold openL
  rw [if_neg h, h3]
  simp only [h4, List.length_nil, if_true]
theorem openL_none (h : ¬ D.off = true) (h2 : (partsF D.fs).map sortP = some ps) (hne : ps.length ≠ 0) (h5 : readL ps = none) : openL D = (D, none, 90) := by
  obtain ⟨p0, h3, h4⟩ := Option.map_eq_some_iff.1 h2
  unfold openL
  rw [if_neg h, h3]
  simp only [h4, if_neg hne, h5]
theorem openL_some (h : ¬ D.off = true) (h2 : (partsF D.fs).map sortP = some ps) (hne : ps.length ≠ 0) {i : Nat} {c : Cn} (h5 : readL ps = some (i, c)) : openL D = openT D ps i c := by
  obtain ⟨p0, h3, h4⟩ := Option.map_eq_some_iff.1 h2
  unfold openL
  rw [if_neg h, h3]
  simp only [h4, if_neg hne, h5]
  rfl
end
def openS (D : Dsk) (k whole : Nat) (c : Cn) : Dsk × Option Lg × Nat := if (doD D 1 (nameF k) [] 0).2 ≠ 0 then ((doD D 1 (nameF k) [] 0).1, none, (doD D 1 (nameF k) [] 0).2) else ((doD D 1 (nameF k) [] 0).1, some ⟨c, k, whole, 0⟩, 0)
theorem openT_rem {D : Dsk} {ps : List Pt} {i : Nat} {c : Cn} {R : Dsk × Nat} (hR : remAll D ((ps.take i).map (·.k)) = R) (h : R.2 ≠ 0) : openT D ps i c = (R.1, none, R.2) := by
  unfold openT; rw [hR, if_pos h]
theorem openT_cut {D Dj : Dsk} {ps : List Pt} {i : Nat} {c : Cn} {q : PV} (hl : lastP ps = q.pt) (hR : remAll D ((ps.take i).map (·.k)) = (Dj, 0)) (hm : q.more = true) : openT D ps i c = if (doD Dj 3 (nameF q.k) [] q.whole).2 ≠ 0 then ((doD Dj 3 (nameF q.k) [] q.whole).1, none, (doD Dj 3 (nameF q.k) [] q.whole).2) else openS (doD Dj 3 (nameF q.k) [] q.whole).1 q.k q.whole c := by
  obtain ⟨k, w, m, rs, A, cap⟩ := q
  simp only at hm
  subst hm
  unfold openT
  rw [hR, hl]; rfl
theorem openT_no {D Dj : Dsk} {ps : List Pt} {i : Nat} {c : Cn} {q : PV} (hl : lastP ps = q.pt) (hR : remAll D ((ps.take i).map (·.k)) = (Dj, 0)) (hm : q.more = false) : openT D ps i c = openS Dj q.k q.whole c := by
  obtain ⟨k, w, m, rs, A, cap⟩ := q
  simp only at hm
  subst hm
  unfold openT
  rw [hR, hl]; rfl
theorem openS_no {D : Dsk} {k whole : Nat} {c : Cn} {R : Dsk × Nat} (hr : doD D 1 (nameF k) [] 0 = R) (h : R.2 ≠ 0) : openS D k whole c = (R.1, none, R.2) := by unfold openS; rw [hr, if_pos h]
theorem openS_yes {D : Dsk} {k whole : Nat} {c : Cn} {R : Dsk × Nat} (hr : doD D 1 (nameF k) [] 0 = R) (h : R.2 = 0) : openS D k whole c = (R.1, some ⟨c, k, whole, 0⟩, 0) := by unfold openS; rw [hr, if_neg (fun x => x h)]
theorem remAll_cons (D : Dsk) (k : Nat) (r : List Nat) : remAll D (k :: r) = if (doD D 4 (nameF k) [] 0).2 ≠ 0 then doD D 4 (nameF k) [] 0 else remAll (doD D 4 (nameF k) [] 0).1 r := rfl
theorem lastP_at {ds : List PV} {q : PV} (h : ds[ds.length - 1]? = some q) : lastP (ds.map PV.pt) = q.pt := by
  unfold lastP
  rw [List.getLast?_eq_getElem?, List.length_map, List.getElem?_map, h]; rfl
theorem readL_lt {ps : List Pt} {i : Nat} {c : Cn} (h : readL ps = some (i, c)) : i < ps.length := by
  unfold readL at h
  split at h
  · obtain ⟨j, h1, h2⟩ := Option.bind_eq_some_iff.1 h
    obtain ⟨c2, _, h3⟩ := Option.map_eq_some_iff.1 h2
    cases h3
    obtain ⟨p, h4, _⟩ := fromP_at h1
    exact (List.getElem?_eq_some_iff.1 h4).1
  · cases h
theorem zero_len : (recsB (allR Cn.zero)).length ≤ 1073741824 := by
  have h1 : RcOk (baR 0 0) := baR_ok (by decide) (by decide)
  have h2 : RcOk (stR 0 0) := stR_ok (by decide) (by decide)
  have e : recsB (allR Cn.zero) = recB (baR 0 0) ++ (recB (stR 0 0) ++ []) := rfl
  rw [e, List.append_nil, List.length_append, recB_eq h1, recB_eq h2, frameB_length, frameB_length]
  have := recP_len h1
  have := recP_len h2
  omega
def OpenPost (db mb ab : Nat) (D : Dsk) (pe : List PE) (w : World) (v : Value) (w' : World) : Prop :=
  ∃ pe', Rep pe' (openL D).1.fs ∧ (((openL D).2.1 = none ∧ v = .tuple #[.pointer none, errV (openL D).2.2] ∧ Turn w w' [.grp (dskO db mb ab D pe)] [.grp (dskO db mb ab (openL D).1 pe')]) ∨
    (∃ g l es ve pl, (openL D).2.1 = some l ∧ (openL D).2.2 = 0 ∧ v = .tuple #[.pointer (some ⟨g, 0, none⟩), .nilIface] ∧ CnR pl l.c es ve ∧ l.bad = 0 ∧ Turn w w' [.grp (dskO db mb ab D pe)] [lgO g db l.c ve ((l.file : Nat) : Int) ((l.long : Nat) : Int) .nilIface, plO pl, .grp (dskO db mb ab (openL D).1 pe')]))
theorem open_no {db mb ab : Nat} {D D2 : Dsk} {pe pe2 : List PE} {w w' : World} {e : Nat} {v : Value} (h : openL D = (D2, none, e)) (hv : v = .tuple #[.pointer none, errV e]) (hR : Rep pe2 D2.fs) (hT : Turn w w' [.grp (dskO db mb ab D pe)] [.grp (dskO db mb ab D2 pe2)]) : OpenPost db mb ab D pe w v w' := by
  unfold OpenPost
  rw [h]
  exact ⟨pe2, hR, .inl ⟨rfl, hv, hT⟩⟩
theorem open_yes {g db mb ab : Nat} {D D2 : Dsk} {pe pe2 : List PE} {w w' : World} {l : Lg} {es : EQ} {ve : Value} {pl : Pl} (h : openL D = (D2, some l, 0)) (hR : Rep pe2 D2.fs) (hL : CnR pl l.c es ve) (hb : l.bad = 0)
    (hT : Turn w w' [.grp (dskO db mb ab D pe)] [lgO g db l.c ve ((l.file : Nat) : Int) ((l.long : Nat) : Int) .nilIface, plO pl, .grp (dskO db mb ab D2 pe2)]) : OpenPost db mb ab D pe w (.tuple #[.pointer (some ⟨g, 0, none⟩), .nilIface]) w' := by
  unfold OpenPost
  rw [h]
  exact ⟨pe2, hR, .inr ⟨g, l, es, ve, pl, rfl, rfl, rfl, hL, hb, hT⟩⟩

theorem fault_cell {w0 w : World} {z : Zone} {F : List Nat} {os : List Own} {bad : Bool} {fb : Nat} (hb : bad = true) (hH : Hp w0 w z F os) (k : Nat) (hk : os[k]? = some (faultO bad fb)) : w.cell? ⟨fb, 0, none⟩ = some (.int .i64 90) := by
  subst hb
  have h1 := hH.own _ (List.mem_of_getElem? hk)
  have h2 : w.heap[fb]? = some (.cells #[.int .i64 90, .int .i64 0] 180 (0, 0)) := h1 _ (List.mem_singleton.2 rfl)
  simp [World.cell?, h2]

theorem rem_next {D : Dsk} {ds : List PV} {i j : Nat} {q : PV} (h : ds[j]? = some q) (hj : j < i) : remAll D ((((ds.map PV.pt).take i).drop j).map (·.k)) = if (doD D 4 (nameF q.k) [] 0).2 ≠ 0 then doD D 4 (nameF q.k) [] 0 else remAll (doD D 4 (nameF q.k) [] 0).1 ((((ds.map PV.pt).take i).drop (j + 1)).map (·.k)) := by
  have hl := (List.getElem?_eq_some_iff.1 h).1
  have he := (List.getElem?_eq_some_iff.1 h).2
  have h1 : j < ((ds.map PV.pt).take i).length := by rw [List.length_take, List.length_map]; omega
  rw [List.drop_eq_getElem_cons h1, List.map_cons, remAll_cons]
  have e : (((ds.map PV.pt).take i)[j]).k = q.k := by rw [List.getElem_take, List.getElem_map, he]; rfl
  rw [e]

theorem WOpen_ct (db mb ab : Nat) (D : Dsk) (pe : List PE) (M : Nat) (w : World) (hM : Mine w [.grp (dskO db mb ab D pe)]) (hR : Rep pe D.fs) (hA : ArOk D.ar) (hG : Good D.fs M) (hMM : M ≤ 4294967296) (hN : D.fs.length ≤ 1000) (hrs : ∀ ps, (partsF D.fs).map sortP = some ps → (ps.map (·.rs)).flatten.length ≤ 1000000) (hks : ∀ ps, (partsF D.fs).map sortP = some ps → ∀ p ∈ ps, KOk w (blksOf [.grp (dskO db mb ab D pe)]) p.k) (hT1 : KOk w (blksOf [.grp (dskO db mb ab D pe)]) 1) :
    Fun Tryz.prog 14 [.pointer (some ⟨db, 0, none⟩)] w fun v w' => OpenPost db mb ab D pe w v w' := by
 refine fun_of_sw Tryz.func14 rfl 102 rfl rfl ?_
 have hH := Hp.start_mine hM
 refine sw_sr ?_
 refine glo 2 [(0, Pp db 0)] ?_
 refine gl_dn rfl ?_
 refine sw_seq ?_
 refine sw_sr ?_
 refine glo 1 [(0, Pp db 0), (13, Pp db 0)] ?_
 replace hH : Hp w w _ _ ([_] ++ []) := hH
 refine gl_st (st_call rfl rfl rfl (by kernel_rfl) rfl (Down_ct db mb ab D pe _ hH.mine) ?_)
 rintro _ w1 ⟨rfl, hF2⟩
 replace hH := hH.turns hF2; clear hF2
 replace hH : Hp w w1 _ _ [_] := hH
 refine gl_dn rfl ?_
 refine sw_cond rfl rfl (fun hc1 => ?_) (fun hc1 => ?_)
 ·
  have hoff := hc1
  refine sw_sr ?_
  refine glo 3 [(2, .pointer none), (3, .iface 38 (.int .i64 80))] ?_
  refine gl_dn rfl ?_
  refine sw_ret ?_
  refine thR ?_
  refine ret2 rfl rfl rfl  ?_
  replace hH : Hp w w1 _ _ [_] := (hH.sublist (slk sln))
  exact open_no (openL_down hoff) rfl hR (hH.turned)
 have hoff : ¬ D.off = true := by rw [hc1]; simp
 refine sw_skip ?_
 refine sw_next ?_
 refine sw_sr ?_
 refine glo 2 [(0, Pp db 0), (17, .agg #[Pp db 0, .int .i64 0, .int .i64 0, .int .i64 0, .int .i64 0, .slice none 0 0, .int .i64 0, .int .i64 0, .nilIface])] ?_
 refine gl_st (st_boxH (cs := [Pp db 0, .int .i64 0, .int .i64 0, .int .i64 0, .int .i64 0, .slice none 0 0, .int .i64 0, .int .i64 0, .nilIface]) rfl rfl rfl rfl hH ?_)
 clear hH; intro b3 w4 hH
 replace hH := hH.pool
 refine glo 1 [(0, Pp db 0), (4, Pp b3 0)] ?_
 refine gl_dn rfl ?_
 refine sw_sr ?_
 refine glo 1 [(0, Pp db 0), (4, Pp b3 0), (20, Pp db 0)] ?_
 replace hH : Hp w w4 _ _ ([_] ++ [_, _]) := hH
 refine gl_st (st_call rfl rfl rfl (by kernel_rfl) rfl (PartsP_ct db mb ab D pe M _ hH.mine hR hG (by omega) hN) ?_)
 rintro _ w5 ⟨bad, fb, vf, ds, pf, rfl, hps, hpv, hF6⟩
 replace hH := hH.turns hF6; clear hF6
 replace hH : Hp w w5 _ _ [_, _, _, _, _, _] := hH
 have hdl : ds.length ≤ D.fs.length := parts_few hps
 obtain ⟨A7, c8, rfl, hl9, hm10⟩ := hH.row_form 3 rfl
 refine glo 5 [(0, Pp db 0), (4, Pp b3 0), (5, .slice A7 ds.length c8), (6, ifW (!bad) 178 (.pointer (some ⟨fb, 0, none⟩)))] ?_
 refine gl_dn rfl ?_
 refine sw_seq ?_
 refine sw_sr ?_
 refine glo 1 [(0, Pp db 0), (4, Pp b3 0), (5, .slice A7 ds.length c8), (6, ifW (!bad) 178 (.pointer (some ⟨fb, 0, none⟩))), (24, ifW (!bad) 178 (.pointer (some ⟨fb, 0, none⟩)))] ?_
 refine gl_q rfl rfl rfl (rd_if_eq (by kernel_rfl) rfl) ?_
 refine glo 1 [(0, Pp db 0), (4, Pp b3 0), (5, .slice A7 ds.length c8), (6, ifW (!bad) 178 (.pointer (some ⟨fb, 0, none⟩))), (26, .bool (!bad))] ?_
 refine gl_split 26 (b := !bad) rfl (fun hg2 => ?_) (fun hg2 => ?_)
 ·
  try simp only [Bool.not_eq_true'] at hg2
  have hbf : bad = false := by simpa using hg2
  have hok := (hps.resolve_left (fun h => by rw [h.1] at hbf; cases hbf)).2
  refine glo 1 [(0, Pp db 0), (4, Pp b3 0), (5, .slice A7 ds.length c8), (6, ifW (!bad) 178 (.pointer (some ⟨fb, 0, none⟩))), (26, .bool true), (27, .slice A7 ds.length c8)] ?_
  refine gl_q rfl rfl rfl (rd_len (e := 106) (by kernel_rfl) rfl) ?_
  refine glo 2 [(0, Pp db 0), (4, Pp b3 0), (5, .slice A7 ds.length c8), (6, ifW (!bad) 178 (.pointer (some ⟨fb, 0, none⟩))), (30, .bool (((ds.length : Nat) : Int) == (0 : Int)))] ?_
  refine gl_dn rfl ?_
  refine sw_cond rfl rfl (fun hc3 => ?_) (fun hc3 => ?_)
  ·
   try simp only [beq_iff_eq] at hc3
   have hnew : (partsF D.fs).map sortP = some [] := by rw [hok, List.eq_nil_of_length_eq_zero (show ds.length = 0 by omega)]; rfl
   refine sw_seq ?_
   refine sw_sr ?_
   refine glo 1 [(4, Pp b3 0), (31, Pp b3 0)] ?_
   replace hH : Hp w w5 _ _ ([_, _, _] ++ [_, _, _]) := hH
   refine gl_st (st_call rfl rfl rfl (by kernel_rfl) rfl (Begin_ct b3 db mb ab 1 Cn.zero 0 0 .nilIface _ [] [] D pe M _ hH.mine (CnR.nil [] _ rfl) hR hA hG (by omega) cnOk_zero zero_len (by simp) (by omega) (hT1.sub hH)) ?_)
   rintro _ w11 ⟨pe2, rfl, hR2, hF12⟩
   replace hH := hH.turns hF12; clear hF12
   replace hH : Hp w w11 _ _ [_, _, _, _, _, _] := hH
   refine glo 1 [(4, Pp b3 0), (7, errV ((doD D 2 (nameF 1) (recsB (allR Cn.zero)) 0).2))] ?_
   refine gl_dn rfl ?_
   refine sw_sr ?_
   refine glo 1 [(4, Pp b3 0), (7, errV ((doD D 2 (nameF 1) (recsB (allR Cn.zero)) 0).2)), (33, errV ((doD D 2 (nameF 1) (recsB (allR Cn.zero)) 0).2))] ?_
   refine gl_q rfl rfl rfl (rd_err_ne (by kernel_rfl) rfl) ?_
   refine gl_dn rfl ?_
   refine sw_cond rfl rfl (fun hc4 => ?_) (fun hc4 => ?_)
   ·
    try simp only [bne_iff_ne, ne_eq] at hc4
    have hbe := hc4
    refine sw_sr ?_
    refine glo 3 [(2, .pointer none), (3, errV ((doD D 2 (nameF 1) (recsB (allR Cn.zero)) 0).2))] ?_
    refine gl_dn rfl ?_
    refine sw_ret ?_
    refine thR ?_
    refine thR ?_
    refine ret2 rfl rfl rfl  ?_
    replace hH := hH.fr6
    replace hH : Hp w w11 _ _ [_] := (hH.sublist (slk sln))
    have hop := openL_new hoff hnew
    rw [if_pos (by simpa using hbe)] at hop
    exact open_no hop rfl hR2 (hH.turned)
   try simp only [bne_eq_false_iff_eq] at hc4
   have hbe := hc4
   refine sw_skip ?_
   refine sw_next ?_
   refine sw_sr ?_
   refine glo 3 [(2, Pp b3 0), (3, .nilIface)] ?_
   refine gl_dn rfl ?_
   refine sw_ret ?_
   refine thR ?_
   refine ret2 rfl rfl rfl  ?_
   replace hH := hH.fr6.fr6.fr6
   replace hH : Hp w w11 _ _ [_, _, _] := (hH.sublist (slk (slk (slk sln))))
   have hop := openL_new hoff hnew
   rw [if_neg (by simpa using hbe)] at hop
   exact open_yes hop hR2 (CnR.nil [] _ rfl) rfl (hH.turned)
  try simp only [beq_eq_false_iff_ne, ne_eq] at hc3
  refine sw_skip ?_
  refine sw_next ?_
  refine sw_sr ?_
  refine glo 1 [(0, Pp db 0), (4, Pp b3 0), (5, .slice A7 ds.length c8), (6, ifW (!bad) 178 (.pointer (some ⟨fb, 0, none⟩))), (8, .int .i64 0)] ?_
  refine gl_dn rfl ?_
  refine sw_seq ?_
  refine sw_sr ?_
  refine glo 1 [(0, Pp db 0), (4, Pp b3 0), (5, .slice A7 ds.length c8), (6, ifW (!bad) 178 (.pointer (some ⟨fb, 0, none⟩))), (8, .int .i64 0), (37, ifW (!bad) 178 (.pointer (some ⟨fb, 0, none⟩)))] ?_
  refine gl_q rfl rfl rfl (rd_if_eq (by kernel_rfl) rfl) ?_
  refine gl_dn rfl ?_
  refine sw_cond rfl rfl (fun hc5 => ?_) (fun hc5 => ?_)
  ·
   try simp only [Bool.not_eq_true'] at hc5
   refine sw_region ?_
   have hrn : recN ds ≤ 1000000 := by have h9 := hrs _ hok; rw [List.map_map] at h9; exact h9
   refine glo 2 [(0, Pp db 0), (4, Pp b3 0), (5, .slice A7 ds.length c8), (40, Pp b3 0), (41, .slice A7 ds.length c8)] ?_
   replace hH : Hp w w5 _ _ ([_, _] ++ [_, _, _, _]) := hH
   refine gl_st (st_call rfl rfl rfl (by kernel_rfl) rfl (LReadP_ct b3 db 0 0 .nilIface _ ds [] (pz pf) _ hH.mine (pz_off hH 2 rfl) (zoff_row (mine := [.blk b3 96 [Pp db 0, .int .i64 0, .int .i64 0, .int .i64 0, .int .i64 0, .slice none 0 0, .int .i64 0, .int .i64 0, .nilIface], plO []]) hH 1 rfl) hpv (by omega) hrn) ?_)
   rintro _ w13 ⟨i, er, o2, rfl, hor, hF14⟩
   replace hH := hH.turns hF14; clear hF14
   replace hH : Hp w w13 _ _ [_, _, _, _, _] := hH
   refine glo 5 [(0, Pp db 0), (4, Pp b3 0), (5, .slice A7 ds.length c8), (6, errV er), (8, Ni i)] ?_
   refine gl_done rfl ?_
   refine sw_next ?_
   refine sw_seq ?_
   refine sw_sr ?_
   refine glo 1 [(0, Pp db 0), (4, Pp b3 0), (5, .slice A7 ds.length c8), (6, errV er), (8, Ni i), (45, errV er)] ?_
   refine gl_cv 45 (errV er) (rfl) rfl ?_
   refine glo 1 [(0, Pp db 0), (4, Pp b3 0), (5, .slice A7 ds.length c8), (6, errV er), (8, Ni i), (45, errV er), (46, .iface 38 (.int .i64 90))] ?_
   refine gl_st (st_call rfl rfl rfl (by kernel_rfl) rfl (IsN_ct er 90 (by decide) _) ?_)
   rintro _ w15 ⟨rfl, hF16⟩
   replace hH := hH.call hF16; clear hF16
   refine gl_dn rfl ?_
   refine sw_cond rfl rfl (fun hc6 => ?_) (fun hc6 => ?_)
   ·
    try simp only [beq_iff_eq] at hc6
    have hey := hc6
    refine sw_sr ?_
    refine glo 3 [(2, .pointer none), (3, .iface 38 (.int .i64 90))] ?_
    refine gl_dn rfl ?_
    refine sw_ret ?_
    refine thR ?_
    refine ret2 rfl rfl rfl  ?_
    replace hH : Hp w w15 _ _ [_] := (hH.sublist (slk sln))
    have hnn := hor.resolve_right (fun h => by obtain ⟨_, _, _, _, _, h2, _⟩ := h; rw [h2] at hey; cases hey)
    exact open_no (openL_none hoff hok (by rw [List.length_map]; omega) hnn.1) rfl hR (hH.turned)
   try simp only [beq_eq_false_iff_ne, ne_eq] at hc6
   have hne9 : er ≠ 90 := by simpa using hc6
   obtain ⟨c2, es2, ve2, pl2, hrd, he0, hL2, ho2⟩ := hor.resolve_left (fun h => by rw [h.2] at hne9; exact hne9 rfl)
   obtain ⟨Ae, ce, rfl, _, _⟩ := hL2.row.form
   replace hH := hH.fr5
   replace hH := do_back ho2 hH
   replace hH : Hp w w15 _ _ [.blk b3 96 [Pp db 0, Ni c2.term, Ni c2.vote, Ni c2.ix, Ni c2.ah, .slice Ae es2.length ce, .int .i64 0, .int .i64 0, .nilIface], plO pl2, .grp (dskO db mb ab D pe), .row (.slice A7 ds.length c8) 106 4 ds.length (rowC pvC ds), plO pf, faultO bad fb] := hH
   have hil : i < ds.length := by have := readL_lt hrd; simpa using this
   have hop := openL_some hoff hok (by rw [List.length_map]; omega) hrd
   have hkk : ∀ q ∈ ds, KOk w (blksOf [.grp (dskO db mb ab D pe)]) q.k := fun q hq => hks _ hok q.pt (List.mem_map.2 ⟨q, hq, rfl⟩)
   obtain ⟨RA, hRA⟩ : ∃ R, remAll D (((ds.map PV.pt).take i).map (·.k)) = R := ⟨_, rfl⟩
   refine sw_skip ?_
   refine sw_next ?_
   refine sw_seq ?_
   refine sw_sr ?_
   obtain ⟨A9, hc9, hv9⟩ := hH.row_win 3 rfl 0 i c8 (by omega) (by omega) (by omega) (by omega)
   refine glo 2 [(0, Pp db 0), (4, Pp b3 0), (5, .slice A7 ds.length c8), (6, errV er), (49, .slice A7 ds.length c8), (50, Ni i)] ?_
   refine gl_q rfl rfl rfl (rd_cut (e := 106) (m := 4) (by kernel_rfl) (by kernel_rfl) rfl (.inl ⟨rfl, rfl⟩) (.inr ⟨_, _, rfl, rfl⟩) hc9) ?_
   refine gl_q rfl rfl rfl (rd_len (e := 106) (by kernel_rfl) rfl) ?_
   refine glo 1 [(0, Pp db 0), (4, Pp b3 0), (5, .slice A7 ds.length c8), (6, errV er), (51, .slice A9 (i - 0) (c8 - 0)), (52, Ni (i - 0)), (53, .int .i64 0)] ?_
   refine gl_dn rfl ?_
   refine sw_block ?_
   replace hH := hH.fr2.fr2.fr4.fr4
   replace hH : Hp w w15 _ _ [_, _, _, _] := (hH.sublist (slk (slk (slk (slk sln)))))
   refine sw_loop (γ := Nat × Dsk × List PE) (fun (j, Dj, pej) => [(0, Pp db 0), (4, Pp b3 0), (5, .slice A7 ds.length c8), (6, errV er), (51, .slice A9 (i - 0) (c8 - 0)), (52, Ni (i - 0)), (53, Ni j)]) (fun (j, Dj, pej) w_ => (j ≤ i) ∧ (Rep pej Dj.fs) ∧ (ArOk Dj.ar) ∧ (Good Dj.fs M) ∧ (remAll Dj ((((ds.map PV.pt).take i).drop j).map (·.k)) = RA) ∧ Hp w w_ (off w (blksOf [.grp (dskO db mb ab D pe)])) (blksOf [.grp (dskO db mb ab D pe)]) [.grp (dskO db mb ab Dj pej), .row (.slice A7 ds.length c8) 106 4 ds.length (rowC pvC ds), .blk b3 96 [Pp db 0, Ni c2.term, Ni c2.vote, Ni c2.ix, Ni c2.ah, .slice Ae es2.length ce, .int .i64 0, .int .i64 0, .nilIface], plO pl2]) (fun (j, Dj, pej) => i - j) (0, D, pe) (Sub.of_eq (by kernel_rfl)) ?_ ?_
   · exact ⟨by omega, hR, hA, hG, by rw [List.drop_zero]; exact hRA, hH⟩
   clear hH
   rintro ⟨j, Dj, pej⟩ w17 ⟨hj, hRj, hAj, hGj, hrem, hH⟩
   refine swk [(0, Pp db 0), (4, Pp b3 0), (5, .slice A7 ds.length c8), (6, errV er), (51, .slice A9 (i - 0) (c8 - 0)), (52, Ni (i - 0)), (53, Ni j)] ?_
   refine sw_sr ?_
   refine glo 1 [(0, Pp db 0), (4, Pp b3 0), (5, .slice A7 ds.length c8), (6, errV er), (51, .slice A9 (i - 0) (c8 - 0)), (52, Ni (i - 0)), (53, Ni j), (54, .bool (decide (((j : Nat) : Int) < ((i - 0 : Nat) : Int))))] ?_
   refine gl_dn rfl ?_
   refine sw_seq ?_
   refine sw_cond rfl rfl (fun hc7 => ?_) (fun hc7 => ?_)
   ·
    try simp only [decide_eq_true_eq] at hc7
    refine sw_skip ?_
    refine sw_next ?_
    refine sw_seq ?_
    refine sw_block ?_
    obtain ⟨q, hq⟩ : ∃ q, ds[j]? = some q := ⟨_, List.getElem?_eq_getElem (by omega)⟩
    have hq0 : ds[0 + j]? = some q := by rw [Nat.zero_add]; exact hq
    have hqk := (hpv q (List.mem_of_getElem? hq)).k
    have hT9 := hkk q (List.mem_of_getElem? hq)
    refine sw_sr ?_
    obtain ⟨b19, hb18, hi20⟩ := hv9.idx j (by omega)
    refine gl_q rfl rfl rfl (rd_idx (e := 106) (m := 4) (by kernel_rfl) (by kernel_rfl) rfl rfl hi20) ?_
    refine gl_q rfl rfl rfl (rd_loadOA (q := 4) 1 (by kernel_rfl) hH rfl rfl hb18 (by kernel_rfl) [Ni q.k, Ni q.whole, .bool q.more, .slice q.A q.rs.length q.cap] rfl (rowC_allO pvC_len hq0 _ rfl)) ?_
    refine gl_st (st_allocH rfl rfl rfl (cs := [.int .i64 0, .int .i64 0, .bool false, .slice none 0 0]) (by kernel_rfl) hH ?_)
    clear hH; intro b21 w22 hH
    refine gl_st (st_storeKA (vs := [Ni q.k, Ni q.whole, .bool q.more, .slice q.A q.rs.length q.cap]) 4 rfl rfl rfl hH rfl rfl (by kernel_rfl) (by kernel_rfl) rfl (by simp) [Ni q.k, Ni q.whole, .bool q.more, .slice q.A q.rs.length q.cap] rfl ?_)
    clear hH; intro w23 hH
    refine gl_dn rfl ?_
    refine sw_sr ?_
    refine glo 2 [(0, Pp db 0), (4, Pp b3 0), (5, .slice A7 ds.length c8), (6, errV er), (51, .slice A9 (i - 0) (c8 - 0)), (52, Ni (i - 0)), (53, Ni j), (57, Pp db 0), (58, Pp b21 0)] ?_
    refine gl_q rfl rfl rfl (rd_loadK 4 (by kernel_rfl) hH rfl rfl rfl) ?_
    refine gl_st (st_call rfl rfl rfl (by kernel_rfl) rfl (Name_ct q.k _ (by omega) (hT9.now hH)) ?_)
    rintro _ w24 ⟨rfl, hF25⟩
    replace hH := hH.call hF25; clear hF25
    obtain ⟨R26, hr27⟩ : ∃ R, doD Dj 4 (nameF q.k) [] 0 = R := ⟨_, rfl⟩
    replace hH : Hp w w24 _ _ ([_] ++ [_, _, _, _]) := hH
    refine gl_st (st_call rfl rfl rfl (by kernel_rfl) rfl (by have h9 := Remove_ct db mb ab Dj pej (nameF q.k) M _ hH.mine hRj hAj hGj (by omega) (by have := nameF_short q.k (by omega); omega); rw [hr27] at h9; exact h9) ?_)
    rintro _ w30 ⟨pe28, rfl, hR29, hF31⟩
    replace hH := hH.turns hF31; clear hF31
    replace hH : Hp w w30 _ _ [_, _, _, _, _] := hH
    have hAR26 : ArOk R26.1.ar := by rw [← hr27]; exact arOk_do hAj _ _ _ _
    have hGR26 : Good R26.1.fs M := by rw [← hr27]; exact (good_doD hGj _ _ _ _).mono (by simp)
    refine glo 1 [(0, Pp db 0), (4, Pp b3 0), (5, .slice A7 ds.length c8), (6, errV er), (11, errV R26.2), (51, .slice A9 (i - 0) (c8 - 0)), (52, Ni (i - 0)), (53, Ni j)] ?_
    refine gl_dn rfl ?_
    refine sw_sr ?_
    refine glo 1 [(0, Pp db 0), (4, Pp b3 0), (5, .slice A7 ds.length c8), (6, errV er), (11, errV R26.2), (51, .slice A9 (i - 0) (c8 - 0)), (52, Ni (i - 0)), (53, Ni j), (62, errV R26.2)] ?_
    refine gl_q rfl rfl rfl (rd_err_ne (by kernel_rfl) rfl) ?_
    refine gl_dn rfl ?_
    refine sw_cond rfl rfl (fun hc8 => ?_) (fun hc8 => ?_)
    ·
     try simp only [bne_iff_ne, ne_eq] at hc8
     have hz9 := hc8
     refine sw_sr ?_
     refine glo 3 [(2, .pointer none), (3, errV R26.2)] ?_
     refine gl_dn rfl ?_
     refine sw_ret ?_
     refine bkR ?_
     refine thR ?_
     refine thR ?_
     refine bkR ?_
     refine thR ?_
     refine ret2 rfl rfl rfl  ?_
     replace hH := hH.fr5
     replace hH : Hp w w30 _ _ [_] := (hH.sublist (slk sln))
     rw [rem_next hq (by omega), if_pos (by rw [hr27]; simpa using hz9), hr27] at hrem
     subst hrem
     have hop2 := hop.trans (openT_rem hRA (by simpa using hz9))
     exact open_no hop2 rfl hR29 (hH.turned)
    try simp only [bne_eq_false_iff_eq] at hc8
    have hz9 := hc8
    refine sw_skip ?_
    refine bkN ?_
    refine sw_next ?_
    refine sw_region ?_
    refine glo 1 [(0, Pp db 0), (4, Pp b3 0), (5, .slice A7 ds.length c8), (6, errV er), (51, .slice A9 (i - 0) (c8 - 0)), (52, Ni (i - 0)), (65, .int .i64 (IntKind.i64.wrap (((j : Nat) : Int) + 1)))] ?_
    refine gl_cv 65 (Ni (j + 1)) (cv_i64 (by omega)) rfl ?_
    refine glo 1 [(0, Pp db 0), (4, Pp b3 0), (5, .slice A7 ds.length c8), (6, errV er), (51, .slice A9 (i - 0) (c8 - 0)), (52, Ni (i - 0)), (53, Ni (j + 1))] ?_
    refine gl_done rfl ?_
    refine rnd_end (g := (j, Dj, pej)) (j + 1, R26.1, pe28) (by kernel_rfl) ?_ ?_
    replace hH := hH.fr3.fr3.fr3.fr5
    replace hH : Hp w w30 _ _ [_, _, _, _] := (hH.sublist (slk (slk (slk (slk sln)))))
    · exact ⟨by omega, hR29, hAR26, hGR26, by rw [rem_next hq (by omega), if_neg (by rw [hr27]; simpa using hz9), hr27] at hrem; exact hrem, hH⟩
    · show i - (j + 1) < i - j; omega
   try simp only [decide_eq_false_iff_not, Int.not_lt, Int.not_le] at hc7
   refine sw_exit ?_
   refine thX ?_
   refine thX ?_
   refine bkH ?_
   refine sw_next ?_
   obtain ⟨q, hq⟩ : ∃ q, ds[ds.length - 1]? = some q := ⟨_, List.getElem?_eq_getElem (by omega)⟩
   have hqk := (hpv q (List.mem_of_getElem? hq)).k
   have hqw := (hpv q (List.mem_of_getElem? hq)).whole
   have hT9 := hkk q (List.mem_of_getElem? hq)
   have hlp := lastP_at hq
   have hje : j = i := by omega
   subst hje
   rw [List.drop_of_length_le (by rw [List.length_take, List.length_map]; omega)] at hrem
   subst hrem
   have hRA2 : remAll D (((ds.map PV.pt).take j).map (·.k)) = (Dj, 0) := hRA
   refine sw_sr ?_
   refine glo 2 [(0, Pp db 0), (4, Pp b3 0), (6, errV er), (66, .slice A7 ds.length c8), (67, .slice A7 ds.length c8)] ?_
   refine gl_q rfl rfl rfl (rd_len (e := 106) (by kernel_rfl) rfl) ?_
   refine glo 1 [(0, Pp db 0), (4, Pp b3 0), (6, errV er), (66, .slice A7 ds.length c8), (69, .int .i64 (IntKind.i64.wrap (((ds.length : Nat) : Int) - 1)))] ?_
   refine gl_cv 69 (Ni (ds.length - 1)) (cv_i64 (by omega)) rfl ?_
   obtain ⟨b33, hb32, hi34⟩ := hH.row_idx 1 rfl (ds.length - 1) (by omega)
   refine gl_q rfl rfl rfl (rd_idx (e := 106) (m := 4) (by kernel_rfl) (by kernel_rfl) rfl rfl hi34) ?_
   refine gl_q rfl rfl rfl (rd_loadOA (q := 4) 1 (by kernel_rfl) hH rfl rfl hb32 (by kernel_rfl) [Ni q.k, Ni q.whole, .bool q.more, .slice q.A q.rs.length q.cap] rfl (rowC_allO pvC_len hq _ rfl)) ?_
   refine gl_st (st_allocH rfl rfl rfl (cs := [.int .i64 0, .int .i64 0, .bool false, .slice none 0 0]) (by kernel_rfl) hH ?_)
   clear hH; intro b35 w36 hH
   refine gl_st (st_storeKA (vs := [Ni q.k, Ni q.whole, .bool q.more, .slice q.A q.rs.length q.cap]) 4 rfl rfl rfl hH rfl rfl (by kernel_rfl) (by kernel_rfl) rfl (by simp) [Ni q.k, Ni q.whole, .bool q.more, .slice q.A q.rs.length q.cap] rfl ?_)
   clear hH; intro w37 hH
   refine gl_dn rfl ?_
   refine sw_seq ?_
   refine sw_draw (by kernel_rfl) (fun w_ => Hp w w_ (off w (blksOf [.grp (dskO db mb ab D pe)])) (blksOf [.grp (dskO db mb ab D pe)]) [.grp (dskO db mb ab Dj pej), .row (.slice A7 ds.length c8) 106 4 ds.length (rowC pvC ds), plO pl2, .blk b35 106 [Ni q.k, Ni q.whole, .bool q.more, .slice q.A q.rs.length q.cap]]) ?_
   replace hH := hH.drew
   generalize { w37 with drawn := w37.drawn + 1 } = w38 at hH ⊢
   have hS9 := hH.sublist (slk (slk (slc (slk (slk sln)))))
   refine gdo 3 [0,1,2] [(0, Pp db 0), (4, Pp b3 0), (6, errV er), (12, Pp b35 0), (72, Pp b3 0), (73, Pp b3 0), (74, Pp b35 0)] hS9 (PQ.th PQ.body) ?_
   refine gdq 3 rfl (fun w_ hS => (rd_loadK 3 (by kernel_rfl) hS rfl rfl rfl)) hS9 (PQ.th PQ.body) ?_
   refine gdo 1 [4] [(0, Pp db 0), (4, Pp b3 0), (6, errV er), (12, Pp b35 0), (72, Pp b3 0), (73, Pp b3 0), (75, Ni q.k), (76, Pp b35 1)] hS9 (PQ.th PQ.body) ?_
   refine gdq 5 rfl (fun w_ hS => (rd_loadK 3 (by kernel_rfl) hS rfl rfl rfl)) hS9 (PQ.th PQ.body) ?_
   refine gdo 2 [6,7] [(0, Pp db 0), (4, Pp b3 0), (6, errV er), (12, Pp b35 0), (73, Pp b3 0), (75, Ni q.k), (77, Ni q.whole), (79, Pp b3 6)] hS9 (PQ.th PQ.body) ?_
   refine gds 8 (st_storeK (v := Ni q.k) 2 rfl rfl rfl hH rfl rfl rfl (by kernel_rfl) rfl (by simp) ?_)
   clear hH; intro w39 hH
   replace hS9 := hH.sublist (slk (slk (slc (slk (slk sln)))))
   refine ⟨hS9, ?_⟩
   refine gdo 2 [9,10] [(0, Pp db 0), (4, Pp b3 0), (6, errV er), (12, Pp b35 0), (77, Ni q.whole), (81, Pp b3 7)] hS9 (PQ.th PQ.body) ?_
   refine gds 11 (st_storeK (v := Ni q.whole) 2 rfl rfl rfl hH rfl rfl rfl (by kernel_rfl) rfl (by simp) ?_)
   clear hH; intro w40 hH
   replace hS9 := hH.sublist (slk (slk (slc (slk (slk sln)))))
   refine ⟨hS9, ?_⟩
   refine gdn [(0, Pp db 0), (4, Pp b3 0), (6, errV er), (12, Pp b35 0)] ?_
   refine sw_next ?_
   refine sw_seq ?_
   refine sw_sr ?_
   refine glo 1 [(0, Pp db 0), (4, Pp b3 0), (6, errV er), (12, Pp b35 0), (82, Pp b35 2)] ?_
   refine gl_q rfl rfl rfl (rd_loadK 4 (by kernel_rfl) hH rfl rfl rfl) ?_
   refine gl_dn rfl ?_
   refine sw_cond rfl rfl (fun hc9 => ?_) (fun hc9 => ?_)
   ·
    have hmore := hc9
    have hop2 := hop.trans (openT_cut hlp hRA2 hmore)
    refine sw_draw (by kernel_rfl) (fun w_ => Hp w w_ (off w (blksOf [.grp (dskO db mb ab D pe)])) (blksOf [.grp (dskO db mb ab D pe)]) [.row (.slice A7 ds.length c8) 106 4 ds.length (rowC pvC ds), .blk b3 96 [Pp db 0, Ni c2.term, Ni c2.vote, Ni c2.ix, Ni c2.ah, .slice Ae es2.length ce, Ni q.k, Ni q.whole, .nilIface], plO pl2, .blk b35 106 [Ni q.k, Ni q.whole, .bool q.more, .slice q.A q.rs.length q.cap]]) ?_
    replace hH := hH.drew
    generalize { w40 with drawn := w40.drawn + 1 } = w41 at hH ⊢
    have hS9 := hH.sublist (slc (slk (slk (slk (slk sln)))))
    refine gdo 2 [0,1] [(0, Pp db 0), (4, Pp b3 0), (6, errV er), (12, Pp b35 0), (84, Pp db 0), (85, Pp b35 0)] hS9 (PQ.th PQ.body) ?_
    refine gdq 2 rfl (fun w_ hS => (rd_loadK 3 (by kernel_rfl) hS rfl rfl rfl)) hS9 (PQ.th PQ.body) ?_
    refine gdo 1 [4] [(0, Pp db 0), (4, Pp b3 0), (6, errV er), (12, Pp b35 0), (84, Pp db 0), (86, Ni q.k), (88, Pp b35 1)] hS9 (PQ.th PQ.body) ?_
    refine gdq 5 rfl (fun w_ hS => (rd_loadK 3 (by kernel_rfl) hS rfl rfl rfl)) hS9 (PQ.th PQ.body) ?_
    refine gds 3 (st_call rfl rfl rfl (by kernel_rfl) rfl (Name_ct q.k _ (by omega) (hT9.now hH)) ?_)
    rintro _ w42 ⟨rfl, hF43⟩
    replace hH := hH.call hF43; clear hF43
    replace hS9 := hH.sublist (slc (slk (slk (slk (slk sln)))))
    refine ⟨hS9, ?_⟩
    obtain ⟨R44, hr45⟩ : ∃ R, doD Dj 3 (nameF q.k) [] ((q.whole : Nat) : Int) = R := ⟨_, rfl⟩
    replace hH : Hp w w42 _ _ ([_] ++ [_, _, _, _]) := hH
    refine gds 6 (st_call rfl rfl rfl (by kernel_rfl) rfl (by have h9 := CutAct_ct db mb ab Dj pej (nameF q.k) ((q.whole : Nat) : Int) M _ hH.mine hRj hAj hGj (by omega) (by have := nameF_short q.k (by omega); omega); rw [hr45] at h9; exact h9) ?_)
    rintro _ w48 ⟨pe46, rfl, hR47, hF49⟩
    replace hH := hH.turns hF49; clear hF49
    replace hH : Hp w w48 _ _ [_, _, _, _, _] := hH
    have hAR44 : ArOk R44.1.ar := by rw [← hr45]; exact arOk_do hAj _ _ _ _
    have hGR44 : Good R44.1.fs M := by rw [← hr45]; exact (good_doD hGj _ _ _ _).mono (by simp)
    replace hS9 := hH.sublist (slk (slk (slk (slk sln))))
    refine ⟨hS9, ?_⟩
    refine gdk [(0, Pp db 0), (4, Pp b3 0), (6, errV er), (12, Pp b35 0), (90, errV R44.2)] ?_
    refine gdo 1 [7] [(0, Pp db 0), (4, Pp b3 0), (6, errV R44.2), (12, Pp b35 0)] hS9 (PQ.th PQ.body) ?_
    refine gdn [(0, Pp db 0), (4, Pp b3 0), (6, errV R44.2), (12, Pp b35 0)] ?_
    refine sw_next ?_
    refine sw_seq ?_
    refine sw_sr ?_
    refine glo 1 [(0, Pp db 0), (4, Pp b3 0), (6, errV R44.2), (12, Pp b35 0), (91, errV R44.2)] ?_
    refine gl_q rfl rfl rfl (rd_err_eq (by kernel_rfl) rfl) ?_
    refine gl_dn rfl ?_
    refine sw_cond rfl rfl (fun hc10 => ?_) (fun hc10 => ?_)
    ·
     try simp only [beq_iff_eq] at hc10
     have hy9 := hc10
     rw [hr45, if_neg (by simpa using hy9)] at hop2
     refine sw_region ?_
     refine glo 2 [(4, Pp b3 0), (93, Pp db 0), (94, Pp b35 0)] ?_
     refine gl_q rfl rfl rfl (rd_loadK 3 (by kernel_rfl) hH rfl rfl rfl) ?_
     refine gl_st (st_call rfl rfl rfl (by kernel_rfl) rfl (Name_ct q.k _ (by omega) (hT9.now hH)) ?_)
     rintro _ w50 ⟨rfl, hF51⟩
     replace hH := hH.call hF51; clear hF51
     obtain ⟨R52, hr53⟩ : ∃ R, doD R44.1 1 (nameF q.k) [] 0 = R := ⟨_, rfl⟩
     replace hH : Hp w w50 _ _ ([_] ++ [_, _, _, _]) := hH.fr5
     refine gl_st (st_call rfl rfl rfl (by kernel_rfl) rfl (by have h9 := Sync_ct db mb ab R44.1 pe46 (nameF q.k) M _ hH.mine hR47 hAR44 hGR44 (by omega) (by have := nameF_short q.k (by omega); omega); rw [hr53] at h9; exact h9) ?_)
     rintro _ w56 ⟨pe54, rfl, hR55, hF57⟩
     replace hH := hH.turns hF57; clear hF57
     replace hH : Hp w w56 _ _ [_, _, _, _, _] := hH
     have hAR52 : ArOk R52.1.ar := by rw [← hr53]; exact arOk_do hAR44 _ _ _ _
     have hGR52 : Good R52.1.fs M := by rw [← hr53]; exact (good_doD hGR44 _ _ _ _).mono (by simp)
     refine glo 1 [(4, Pp b3 0), (6, errV R52.2)] ?_
     refine gl_done rfl ?_
     refine sw_next ?_
     refine sw_seq ?_
     refine sw_sr ?_
     refine glo 1 [(4, Pp b3 0), (6, errV R52.2), (98, errV R52.2)] ?_
     refine gl_q rfl rfl rfl (rd_err_ne (by kernel_rfl) rfl) ?_
     refine gl_dn rfl ?_
     refine sw_cond rfl rfl (fun hc11 => ?_) (fun hc11 => ?_)
     ·
      try simp only [bne_iff_ne, ne_eq] at hc11
      have hop2 := hop2.trans (openS_no hr53 (by simpa using hc11))
      refine sw_sr ?_
      refine glo 3 [(2, .pointer none), (3, errV R52.2)] ?_
      refine gl_dn rfl ?_
      refine sw_ret ?_
      refine thR ?_
      refine ret2 rfl rfl rfl  ?_
      replace hH := hH.fr5
      replace hH : Hp w w56 _ _ [_] := (hH.sublist (slk sln))
      exact open_no hop2 rfl hR55 (hH.turned)
     try simp only [bne_eq_false_iff_eq] at hc11
     have hop2 := hop2.trans (openS_yes hr53 (by simpa using hc11))
     refine sw_skip ?_
     refine sw_next ?_
     refine sw_sr ?_
     refine glo 3 [(2, Pp b3 0), (3, .nilIface)] ?_
     refine gl_dn rfl ?_
     refine sw_ret ?_
     refine ret2 rfl rfl rfl  ?_
     replace hH := hH.fr5.fr4.fr4
     replace hH : Hp w w56 _ _ [_, _, _] := (hH.sublist (slk (slk (slk sln))))
     exact open_yes hop2 hR55 hL2 rfl (hH.turned)
    try simp only [beq_eq_false_iff_ne, ne_eq] at hc10
    have hz9 := hc10
    rw [hr45, if_pos (by simpa using hz9)] at hop2
    refine sw_skip ?_
    refine sw_next ?_
    refine sw_seq ?_
    refine sw_sr ?_
    refine glo 1 [(4, Pp b3 0), (6, errV R44.2), (98, errV R44.2)] ?_
    refine gl_q rfl rfl rfl (rd_err_ne (by kernel_rfl) rfl) ?_
    refine gl_dn rfl ?_
    refine sw_cond rfl rfl (fun hc12 => ?_) (fun hc12 => ?_)
    ·
     try simp only [bne_iff_ne, ne_eq] at hc12
     refine sw_sr ?_
     refine glo 3 [(2, .pointer none), (3, errV R44.2)] ?_
     refine gl_dn rfl ?_
     refine sw_ret ?_
     refine thR ?_
     refine ret2 rfl rfl rfl  ?_
     replace hH := hH.fr5
     replace hH : Hp w w48 _ _ [_] := (hH.sublist (slk sln))
     exact open_no hop2 rfl hR47 (hH.turned)
    try simp only [bne_eq_false_iff_eq] at hc12
    exact absurd hc12 (by simpa using hz9)
   have hmore := hc9
   have hop2 := hop.trans (openT_no hlp hRA2 hmore)
   refine sw_skip ?_
   refine sw_next ?_
   refine sw_seq ?_
   refine sw_sr ?_
   refine glo 1 [(0, Pp db 0), (4, Pp b3 0), (6, errV er), (12, Pp b35 0), (91, errV er)] ?_
   refine gl_q rfl rfl rfl (rd_err_eq (by kernel_rfl) rfl) ?_
   refine gl_dn rfl ?_
   refine sw_cond rfl rfl (fun hc13 => ?_) (fun hc13 => ?_)
   ·
    try simp only [beq_iff_eq] at hc13
    refine sw_region ?_
    refine glo 2 [(4, Pp b3 0), (93, Pp db 0), (94, Pp b35 0)] ?_
    refine gl_q rfl rfl rfl (rd_loadK 4 (by kernel_rfl) hH rfl rfl rfl) ?_
    refine gl_st (st_call rfl rfl rfl (by kernel_rfl) rfl (Name_ct q.k _ (by omega) (hT9.now hH)) ?_)
    rintro _ w58 ⟨rfl, hF59⟩
    replace hH := hH.call hF59; clear hF59
    obtain ⟨R60, hr61⟩ : ∃ R, doD Dj 1 (nameF q.k) [] 0 = R := ⟨_, rfl⟩
    replace hH : Hp w w58 _ _ ([_] ++ [_, _, _, _]) := hH
    refine gl_st (st_call rfl rfl rfl (by kernel_rfl) rfl (by have h9 := Sync_ct db mb ab Dj pej (nameF q.k) M _ hH.mine hRj hAj hGj (by omega) (by have := nameF_short q.k (by omega); omega); rw [hr61] at h9; exact h9) ?_)
    rintro _ w64 ⟨pe62, rfl, hR63, hF65⟩
    replace hH := hH.turns hF65; clear hF65
    replace hH : Hp w w64 _ _ [_, _, _, _, _] := hH
    have hAR60 : ArOk R60.1.ar := by rw [← hr61]; exact arOk_do hAj _ _ _ _
    have hGR60 : Good R60.1.fs M := by rw [← hr61]; exact (good_doD hGj _ _ _ _).mono (by simp)
    refine glo 1 [(4, Pp b3 0), (6, errV R60.2)] ?_
    refine gl_done rfl ?_
    refine sw_next ?_
    refine sw_seq ?_
    refine sw_sr ?_
    refine glo 1 [(4, Pp b3 0), (6, errV R60.2), (98, errV R60.2)] ?_
    refine gl_q rfl rfl rfl (rd_err_ne (by kernel_rfl) rfl) ?_
    refine gl_dn rfl ?_
    refine sw_cond rfl rfl (fun hc14 => ?_) (fun hc14 => ?_)
    ·
     try simp only [bne_iff_ne, ne_eq] at hc14
     have hop2 := hop2.trans (openS_no hr61 (by simpa using hc14))
     refine sw_sr ?_
     refine glo 3 [(2, .pointer none), (3, errV R60.2)] ?_
     refine gl_dn rfl ?_
     refine sw_ret ?_
     refine thR ?_
     refine ret2 rfl rfl rfl  ?_
     replace hH := hH.fr5
     replace hH : Hp w w64 _ _ [_] := (hH.sublist (slk sln))
     exact open_no hop2 rfl hR63 (hH.turned)
    try simp only [bne_eq_false_iff_eq] at hc14
    have hop2 := hop2.trans (openS_yes hr61 (by simpa using hc14))
    refine sw_skip ?_
    refine sw_next ?_
    refine sw_sr ?_
    refine glo 3 [(2, Pp b3 0), (3, .nilIface)] ?_
    refine gl_dn rfl ?_
    refine sw_ret ?_
    refine ret2 rfl rfl rfl  ?_
    replace hH := hH.fr5.fr4.fr4
    replace hH : Hp w w64 _ _ [_, _, _] := (hH.sublist (slk (slk (slk sln))))
    exact open_yes hop2 hR63 hL2 rfl (hH.turned)
   try simp only [beq_eq_false_iff_ne, ne_eq] at hc13
   exact absurd he0 (by simpa using hc13)
  try simp only [Bool.not_eq_false'] at hc5
  exact absurd hbf (by simpa using hc5)
 try simp only [Bool.not_eq_false'] at hg2
 have hbt : bad = true := by simpa using hg2
 refine glo 4 [(0, Pp db 0), (4, Pp b3 0), (5, .slice A7 ds.length c8), (6, ifW (!bad) 178 (.pointer (some ⟨fb, 0, none⟩))), (30, .bool false)] ?_
 refine gl_dn rfl ?_
 refine sw_false rfl rfl ?_
 refine sw_skip ?_
 refine sw_next ?_
 refine sw_sr ?_
 refine glo 1 [(0, Pp db 0), (4, Pp b3 0), (5, .slice A7 ds.length c8), (6, ifW (!bad) 178 (.pointer (some ⟨fb, 0, none⟩))), (8, .int .i64 0)] ?_
 refine gl_dn rfl ?_
 refine sw_seq ?_
 refine sw_sr ?_
 refine glo 1 [(0, Pp db 0), (4, Pp b3 0), (5, .slice A7 ds.length c8), (6, ifW (!bad) 178 (.pointer (some ⟨fb, 0, none⟩))), (8, .int .i64 0), (37, ifW (!bad) 178 (.pointer (some ⟨fb, 0, none⟩)))] ?_
 refine gl_q rfl rfl rfl (rd_if_eq (by kernel_rfl) rfl) ?_
 refine gl_dn rfl ?_
 refine sw_cond rfl rfl (fun hc16 => ?_) (fun hc16 => ?_)
 ·
  try simp only [Bool.not_eq_true'] at hc16
  exact absurd hbt (by simpa using hc16)
 try simp only [Bool.not_eq_false'] at hc16
 refine sw_skip ?_
 refine sw_next ?_
 refine sw_seq ?_
 refine sw_sr ?_
 refine glo 1 [(0, Pp db 0), (4, Pp b3 0), (5, .slice A7 ds.length c8), (6, ifW (!bad) 178 (.pointer (some ⟨fb, 0, none⟩))), (8, .int .i64 0), (45, ifW (!bad) 178 (.pointer (some ⟨fb, 0, none⟩)))] ?_
 refine gl_cv 45 (.iface 178 (Pp fb 0)) (if_bad hbt _ _) rfl ?_
 refine glo 1 [(0, Pp db 0), (4, Pp b3 0), (5, .slice A7 ds.length c8), (6, ifW (!bad) 178 (.pointer (some ⟨fb, 0, none⟩))), (8, .int .i64 0), (45, .iface 178 (Pp fb 0)), (46, .iface 38 (.int .i64 90))] ?_
 refine gl_st (st_call rfl rfl rfl (by kernel_rfl) rfl (IsF_ct fb _ (fault_cell hbt hH 5 rfl)) ?_)
 rintro _ w66 ⟨rfl, hF67⟩
 replace hH := hH.call hF67; clear hF67
 refine gl_dn rfl ?_
 refine sw_true rfl rfl ?_
 refine sw_sr ?_
 refine glo 3 [(2, .pointer none), (3, .iface 38 (.int .i64 90))] ?_
 refine gl_dn rfl ?_
 refine sw_ret ?_
 refine thR ?_
 refine ret2 rfl rfl rfl  ?_
 replace hH := hH.fr3
 replace hH : Hp w w66 _ _ [_] := (hH.sublist (slk sln))
 exact open_no (openL_bad hoff (hps.resolve_right (fun h => by rw [h.1] at hbt; cases hbt)).2.1) rfl hR (hH.turned)
end Go.Proofs.YtajapgjemefoiaaGreatDoor
