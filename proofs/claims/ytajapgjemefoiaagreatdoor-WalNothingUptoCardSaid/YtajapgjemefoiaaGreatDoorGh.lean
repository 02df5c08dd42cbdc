/- Gh: several texts in one. -/
import Derived.Test.YtajapgjemefoiaaGreatDoorGg
import Derived.Test.YtajapgjemefoiaaGreatDoorGc
import Derived.Test.YtajapgjemefoiaaGreatDoorGf
import Derived.Test.YtajapgjemefoiaaGreatDoorGe
/- Layer 19 (wal): the term, the vote, entries are saved: what it answers. -/
set_option maxRecDepth 100000
set_option maxHeartbeats 4000000
set_option linter.unusedVariables false
set_option linter.unusedSimpArgs false
namespace Go.Proofs.YtajapgjemefoiaaGreatDoor
open Go.RowKit Go.SW
def SavePost (g db mb ab : Nat) (l : Lg) (ve : Value) (pl : Pl) (D : Dsk) (pe : List PE) (R : Dsk × Lg × Nat) (w : World) (v : Value) (w' : World) : Prop :=
  ∃ pe' es2 ve2 pl2, v = errV R.2.2 ∧ (Rep pe' R.1.fs ∧ CnR pl2 R.2.1.c es2 ve2) ∧
    Turn w w' [lgO g db l.c ve ((l.file : Nat) : Int) ((l.long : Nat) : Int) (errV l.bad), plO pl, .grp (dskO db mb ab D pe)] [lgO g db R.2.1.c ve2 ((R.2.1.file : Nat) : Int) ((R.2.1.long : Nat) : Int) (errV R.2.1.bad), plO pl2, .grp (dskO db mb ab R.1 pe')]
theorem putsA_snoc : ∀ (es : List EA) (e : EA) (c : Cn), putsA c (es ++ [e]) = (putsA c es).bind fun c' => if e.tm < 0 ∨ e.kd < 0 ∨ e.ix ≤ c'.ix then none else putC c' e.en
  | [], e, c => by
    show (if e.tm < 0 ∨ e.kd < 0 ∨ e.ix ≤ c.ix then none else (putC c e.en).bind fun c' => some c') = (some c).bind _
    simp only [Option.bind_some]
    split
    · rfl
    · cases putC c e.en <;> rfl
  | a :: es, e, c => by
    rw [List.cons_append, putsA, putsA]
    split
    · rfl
    · cases putC c a.en with
      | none => rfl
      | some c1 =>
        simp only [Option.bind_some]
        exact putsA_snoc es e c1
theorem putsA_none {es : List EA} {i : Nat} {e : EA} (h : es[i]? = some e) {c c' : Cn} (hc : putsA c (es.take i) = some c') (hn : (if e.tm < 0 ∨ e.kd < 0 ∨ e.ix ≤ c'.ix then none else putC c' e.en) = none) : putsA c es = none := by
  have hi := (List.getElem?_eq_some_iff.1 h).1
  have he := (List.getElem?_eq_some_iff.1 h).2
  have key : ∀ (b a : List EA), putsA c a = none → putsA c (a ++ b) = none := by
    intro b
    induction b with
    | nil => intro a h; rwa [List.append_nil]
    | cons x b ih =>
      intro a h
      have := ih (a ++ [x]) (by rw [putsA_snoc, h]; rfl)
      rwa [List.append_assoc] at this
  have h1 : putsA c (es.take (i + 1)) = none := by
    rw [List.take_succ_eq_append_getElem hi, he, putsA_snoc, hc]; exact hn
  have := key (es.drop (i + 1)) (es.take (i + 1)) h1
  rwa [List.take_append_drop] at this
theorem putsA_next {es : List EA} {i : Nat} {e : EA} (h : es[i]? = some e) {c c' c2 : Cn} (hc : putsA c (es.take i) = some c') (h1 : ¬ (e.tm < 0 ∨ e.kd < 0 ∨ e.ix ≤ c'.ix)) (h2 : putC c' e.en = some c2) : putsA c (es.take (i + 1)) = some c2 := by
  have hi := (List.getElem?_eq_some_iff.1 h).1
  have he := (List.getElem?_eq_some_iff.1 h).2
  rw [List.take_succ_eq_append_getElem hi, he, putsA_snoc, hc]
  simp only [Option.bind_some]
  rw [if_neg h1, h2]
theorem putsA_len : ∀ {es : List EA} {c c' : Cn}, putsA c es = some c' → c'.ix = c.ix ∧ c'.ah = c.ah ∧ c'.es.length ≤ c.es.length + es.length
  | [], c, c', h => by cases h; simp
  | e :: es, c, c', h => by
    rw [putsA] at h
    split at h
    · cases h
    · obtain ⟨c1, h1, h2⟩ := Option.bind_eq_some_iff.1 h
      obtain ⟨a1, a2, a3⟩ := putsA_len h2
      obtain ⟨_, _, rfl⟩ := putC_some h1
      simp only [List.length_append, List.length_take, List.length_singleton] at a1 a2 a3
      refine ⟨a1, a2, ?_⟩
      rw [List.length_cons]; omega
theorem putC_hx {c c' : Cn} {e : En} (h : putC c e = some c') (he : e.ix < 9223372036854775808) : c'.ix + c'.es.length < 9223372036854775808 := by
  obtain ⟨h1, h2, rfl⟩ := putC_some h
  simp only [List.length_append, List.length_take, List.length_singleton]
  omega
section
variable {D : Dsk} {l : Lg} {t v : Int} {es : List EA}
theorem saveL_badL (h : l.bad ≠ 0) : saveL D l t v es = (D, l, l.bad) := by unfold saveL; rw [if_pos h]
theorem saveL_none (h : l.bad = 0) (hp : putsA l.c es = none) : saveL D l t v es = (D, l, 1) := by unfold saveL; rw [if_neg (fun x => x h), hp]
theorem saveL_neg (h : l.bad = 0) {c' : Cn} (hp : putsA l.c es = some c') (hn : t < 0 ∨ v < 0) : saveL D l t v es = (D, l, 1) := by unfold saveL; rw [if_neg (fun x => x h), hp]; simp only; rw [if_pos hn]
theorem saveL_long (h : l.bad = 0) {c' : Cn} (hp : putsA l.c es = some c') (hn : ¬ (t < 0 ∨ v < 0)) (hl : es.any (fun e => decide (65536 < e.d.length)) = true) : saveL D l t v es = (D, l, 2) := by unfold saveL; rw [if_neg (fun x => x h), hp]; simp only; rw [if_neg hn, if_pos hl]
theorem saveL_nil (h : l.bad = 0) {c' : Cn} (hp : putsA l.c es = some c') (hn : ¬ (t < 0 ∨ v < 0)) (hl : ¬ es.any (fun e => decide (65536 < e.d.length)) = true) (hb : saveB l.c t.toNat v.toNat (es.map EA.en) = []) : saveL D l t v es = (D, l, 0) := by
  unfold saveL; rw [if_neg (fun x => x h), hp]; simp only; rw [if_neg hn, if_neg hl, if_pos hb]
def saveW (D : Dsk) (l : Lg) (c' : Cn) (t v fi lo : Nat) (b : List UInt8) : Dsk × Lg × Nat :=
  if (doD D 0 (nameF fi) b 0).2 ≠ 0 then ((doD D 0 (nameF fi) b 0).1, ⟨l.c, fi, lo, (doD D 0 (nameF fi) b 0).2⟩, (doD D 0 (nameF fi) b 0).2) else
  if (doD (doD D 0 (nameF fi) b 0).1 1 (nameF fi) [] 0).2 ≠ 0 then ((doD (doD D 0 (nameF fi) b 0).1 1 (nameF fi) [] 0).1, ⟨l.c, fi, lo, (doD (doD D 0 (nameF fi) b 0).1 1 (nameF fi) [] 0).2⟩, (doD (doD D 0 (nameF fi) b 0).1 1 (nameF fi) [] 0).2)
  else ((doD (doD D 0 (nameF fi) b 0).1 1 (nameF fi) [] 0).1, ⟨{ c' with term := t, vote := v }, fi, lo, 0⟩, 0)
theorem saveL_w (h : l.bad = 0) {c' : Cn} (hp : putsA l.c es = some c') {T V : Nat} (hl : ¬ es.any (fun e => decide (65536 < e.d.length)) = true) {b : List UInt8} (hb : saveB l.c T V (es.map EA.en) = b) (hne : b ≠ []) {fi lo : Nat} (hfi : (if 1024 ≤ l.long then l.file + 1 else l.file) = fi) (hlo : (if 1024 ≤ l.long then 0 else l.long) + b.length = lo) :
    saveL D l ((T : Nat) : Int) ((V : Nat) : Int) es = saveW D l c' T V fi lo b := by
  unfold saveL
  rw [if_neg (fun x => x h), hp]
  simp only
  rw [if_neg (by omega), if_neg hl, Int.toNat_natCast, Int.toNat_natCast, hb, if_neg hne, hfi, hlo]
  rfl
theorem saveW_1 {c' : Cn} {t v fi lo : Nat} {b : List UInt8} {R : Dsk × Nat} (hr : doD D 0 (nameF fi) b 0 = R) (h : R.2 ≠ 0) : saveW D l c' t v fi lo b = (R.1, ⟨l.c, fi, lo, R.2⟩, R.2) := by unfold saveW; rw [hr, if_pos h]
theorem saveW_2 {c' : Cn} {t v fi lo : Nat} {b : List UInt8} {R S : Dsk × Nat} (hr : doD D 0 (nameF fi) b 0 = R) (h : R.2 = 0) (hs : doD R.1 1 (nameF fi) [] 0 = S) (h2 : S.2 ≠ 0) : saveW D l c' t v fi lo b = (S.1, ⟨l.c, fi, lo, S.2⟩, S.2) := by unfold saveW; rw [hr, if_neg (fun x => x h), hs, if_pos h2]
theorem saveW_3 {c' : Cn} {t v fi lo : Nat} {b : List UInt8} {R S : Dsk × Nat} (hr : doD D 0 (nameF fi) b 0 = R) (h : R.2 = 0) (hs : doD R.1 1 (nameF fi) [] 0 = S) (h2 : S.2 = 0) : saveW D l c' t v fi lo b = (S.1, ⟨{ c' with term := t, vote := v }, fi, lo, 0⟩, 0) := by unfold saveW; rw [hr, if_neg (fun x => x h), hs, if_neg (fun x => x h2)]
end
theorem save_fin {g db mb ab : Nat} {l : Lg} {ve ve2 : Value} {pl pl2 : Pl} {D : Dsk} {pe pe2 : List PE} {R S : Dsk × Lg × Nat} {w w' : World} {e : Nat} {es2 : EQ} (h : R = S) (he : S.2.2 = e) (hR : Rep pe2 S.1.fs) (hL : CnR pl2 S.2.1.c es2 ve2)
    (hT : Turn w w' [lgO g db l.c ve ((l.file : Nat) : Int) ((l.long : Nat) : Int) (errV l.bad), plO pl, .grp (dskO db mb ab D pe)] [lgO g db S.2.1.c ve2 ((S.2.1.file : Nat) : Int) ((S.2.1.long : Nat) : Int) (errV S.2.1.bad), plO pl2, .grp (dskO db mb ab S.1 pe2)]) :
    SavePost g db mb ab l ve pl D pe R w (errV e) w' := by
  subst h he
  exact ⟨pe2, es2, ve2, pl2, rfl, ⟨hR, hL⟩, hT⟩
abbrev enQ (qs : EI) : EQ := qs.map fun q => (q.1.en, q.2)
theorem frames_ei {c : Zone} {vx : Value} {qs : EI} (hE : Row c vx 4 qs.length (rowC eiC qs)) (hp : ∀ q ∈ qs, 0 ≤ q.1.tm ∧ 0 ≤ q.1.kd ∧ 0 ≤ q.1.ix) : Row c vx 4 (enQ qs).length (rowC enC (enQ qs)) := by
  rw [List.length_map]
  have : rowC enC (enQ qs) = rowC eiC qs := by
    unfold rowC
    rw [List.map_map]
    congr 1
    refine List.map_congr_left fun q hq => ?_
    obtain ⟨h1, h2, h3⟩ := hp q hq
    simp only [Function.comp_apply, enC, eiC, EA.en]
    rw [Int.toNat_of_nonneg h1, Int.toNat_of_nonneg h2, Int.toNat_of_nonneg h3]
  rw [this]; exact hE
theorem ei_ok {c : Zone} {qs : EI} (hD : ∀ q ∈ qs, RB c q.2 q.1.d) (hok : ∀ q ∈ qs, EAok q.1) : ∀ q ∈ (enQ qs), EnOk c q := by
  intro q hq
  obtain ⟨x, hx, rfl⟩ := List.mem_map.1 hq
  obtain ⟨h1, h2, h3⟩ := hok x hx
  refine ⟨hD x hx, ?_, ?_, ?_⟩ <;> simp only [EA.en] <;> omega
theorem ei_en (qs : EI) : enB (enQ qs) = recsB (((qs.map (·.1)).map EA.en).map enR) := by
  unfold enB
  rw [List.map_map, List.map_map, List.map_map]; rfl
theorem puts_at {qs : EI} {c c' : Cn} (h : putsA c (qs.map (·.1)) = some c') : ∀ q ∈ qs, 0 ≤ q.1.tm ∧ 0 ≤ q.1.kd ∧ 0 ≤ q.1.ix := fun q hq => puts_ok h q.1 (List.mem_map.2 ⟨q, hq, rfl⟩)

theorem put_args {ix tm kd : Int} {d : List UInt8} (h1 : 0 ≤ ix) (h2 : 0 ≤ tm) (h3 : 0 ≤ kd) {vd : Value} : (Value.agg #[.int .i64 (((EA.en ⟨ix, tm, kd, d⟩).ix : Nat) : Int), .int .i64 (((EA.en ⟨ix, tm, kd, d⟩).tm : Nat) : Int), .int .i64 (((EA.en ⟨ix, tm, kd, d⟩).kd : Nat) : Int), vd]) = .agg #[.int .i64 ix, .int .i64 tm, .int .i64 kd, vd] := by
  simp only [EA.en]
  rw [Int.toNat_of_nonneg h1, Int.toNat_of_nonneg h2, Int.toNat_of_nonneg h3]
theorem PutA_ct (g : Nat) (te vo : Int) (c : Cn) (ve vd : Value) (es : EQ) (e : EA) (pl : Pl) (w : World) (hM : Mine w [cnO g te vo c ve, plO pl]) (hL : CnR pl c es ve) (hd : RB (off w (blksOf [cnO g te vo c ve, plO pl])) vd e.d)
    (hl : es.length ≤ 1000000) (hcx : c.ix + es.length < 9223372036854775808) (ho : EAok e) (htm : 0 ≤ e.tm) (hkd : 0 ≤ e.kd) (hdl : e.d.length ≤ 1048576) :
    Fun Tryz.prog 48 [.pointer (some ⟨g, 0, none⟩), .agg #[.int .i64 e.ix, .int .i64 e.tm, .int .i64 e.kd, vd]] w fun v w' =>
      ∃ bb o2, v = .bool bb ∧ (((if e.tm < 0 ∨ e.kd < 0 ∨ e.ix ≤ c.ix then none else putC c e.en) = none ∧ bb = false ∧ o2 = [cnO g te vo c ve, plO pl]) ∨ (∃ c2 es2 ve2 pl2, putC c e.en = some c2 ∧ bb = true ∧ ¬ (e.tm < 0 ∨ e.kd < 0 ∨ e.ix ≤ c.ix) ∧ CnR pl2 c2 es2 ve2 ∧ (pz pl).le (pz pl2) ∧ o2 = [cnO g te vo c2 ve2, plO pl2])) ∧ Turn w w' [cnO g te vo c ve, plO pl] [.grp o2] := by
  obtain ⟨ix, tm, kd, d⟩ := e
  obtain ⟨h1, h2, h3⟩ := ho
  simp only at hd htm hkd hdl h1 h2 h3 ⊢
  by_cases hn : ix < 0
  · have hcell : w.cell? ⟨g, 2, none⟩ = some (.int .i64 ((c.ix : Nat) : Int)) := Hp.blk_cell (Hp.start_mine hM) 0 rfl rfl
    obtain ⟨A, cap, e, _, _⟩ := hd.row.form
    refine (PutNeg_ct g c.ix ix tm kd vd w hcell hn ⟨A, _, cap, e⟩).mono ?_
    rintro v w' ⟨rfl, hF⟩
    refine ⟨false, _, rfl, .inl ⟨by rw [if_pos (by omega)], rfl, rfl⟩, ?_⟩
    have h4 := (Hp.start_mine hM).call hF
    rw [List.append_nil] at h4
    exact Hp.close (r := []) (by rw [List.append_nil]; exact h4.turned)
  · have h9 := PutP0_ct g te vo c ve vd es (EA.en ⟨ix, tm, kd, d⟩) pl w hM hL hd hl hcx (by simp only [EA.en]; omega) (by simp only [EA.en]; omega) (by simp only [EA.en]; omega) hdl
    rw [put_args (by omega) htm hkd] at h9
    refine h9.mono ?_
    rintro v w' (⟨h4, rfl, h5⟩ | ⟨c2, es2, ve2, pl2, h4, rfl, h5, h6, h7⟩)
    · refine ⟨false, _, rfl, .inl ⟨by split <;> first | rfl | exact h4, rfl, rfl⟩, Hp.close (r := []) (by rw [List.append_nil]; exact h5)⟩
    · have e2 : cnO g te vo c ve2 = cnO g te vo c2 ve2 := by obtain ⟨_, _, rfl⟩ := putC_some h4; rfl
      have hgt := (putC_some h4).1
      simp only [EA.en] at hgt
      exact ⟨true, _, rfl, .inr ⟨c2, es2, ve2, pl2, h4, rfl, by omega, h5, h6, rfl⟩, Hp.close (r := []) (by rw [List.append_nil, ← e2]; exact h7)⟩
theorem do_back2 {w0 w : World} {z : Zone} {F : List Nat} {o : List Own} {r : List Own} {a b : Own} (e : o = [a, b]) (h : Hp w0 w z F (.grp o :: r)) : Hp w0 w z F (a :: b :: r) := by
  subst e
  exact h.open_

theorem en_mono {c c' : Zone} {q : En × Value} (h : EnOk c q) (hl : c.le c') : EnOk c' q := ⟨h.d.mono hl, h.ix, h.tm, h.kd⟩

theorem Save19_ct (g db mb ab : Nat) (l : Lg) (t v : Int) (ve vx : Value) (es : EQ) (qs : EI) (pl : Pl) (D : Dsk) (pe : List PE) (M : Nat) (w : World) (hM : Mine w [lgO g db l.c ve ((l.file : Nat) : Int) ((l.long : Nat) : Int) (errV l.bad), plO pl, .grp (dskO db mb ab D pe)]) (hL : CnR pl l.c es ve) (hE : Row (off w (blksOf [lgO g db l.c ve ((l.file : Nat) : Int) ((l.long : Nat) : Int) (errV l.bad), plO pl, .grp (dskO db mb ab D pe)])) vx 4 qs.length (rowC eiC qs)) (hD : ∀ q ∈ qs, RB (off w (blksOf [lgO g db l.c ve ((l.file : Nat) : Int) ((l.long : Nat) : Int) (errV l.bad), plO pl, .grp (dskO db mb ab D pe)])) q.2 q.1.d) (hok : ∀ q ∈ qs, EAok q.1) (hdl : ∀ q ∈ qs, q.1.d.length ≤ 1048576) (hcx : l.c.ix + l.c.es.length < 9223372036854775808) (hn : l.c.es.length + qs.length ≤ 1000000) (ht : t ≤ 9223372036854775807) (hv : v ≤ 9223372036854775807) (hbig : ∀ T V : Nat, T < 9223372036854775808 → V < 9223372036854775808 → (saveB l.c T V ((qs.map (·.1)).map EA.en)).length ≤ 1073741824)
    (hR : Rep pe D.fs) (hA : ArOk D.ar) (hG : Good D.fs M) (hMM : M ≤ 2147483648) (hfl : l.file < 4294967296) (hlg : l.long ≤ 4294967296) (hTf : ∀ k, k ≤ l.file + 1 → KOk w (blksOf [lgO g db l.c ve ((l.file : Nat) : Int) ((l.long : Nat) : Int) (errV l.bad), plO pl, .grp (dskO db mb ab D pe)]) k) :
    Fun Tryz.prog 15 [.pointer (some ⟨g, 0, none⟩), .int .i64 t, .int .i64 v, vx] w fun r w' => SavePost g db mb ab l ve pl D pe (saveL D l t v (qs.map (·.1))) w r w' := by
 obtain ⟨Ae, ce, rfl, he1, he2⟩ := hL.row.form
 obtain ⟨Ax, cxx, rfl, hx1, hx2⟩ := hE.form
 have hll := hL.len
 refine fun_of_sw Tryz.func15 rfl 157 rfl rfl ?_
 have hH := Hp.start_mine hM
 refine sw_sr ?_
 refine glo 1 [(0, Pp g 0), (1, .int .i64 t), (2, .int .i64 v), (3, .slice Ax qs.length cxx)] ?_
 refine gl_dn rfl ?_
 refine sw_seq ?_
 refine sw_sr ?_
 refine glo 3 [(0, Pp g 0), (1, .int .i64 t), (2, .int .i64 v), (3, .slice Ax qs.length cxx), (15, Pp g 8)] ?_
 refine gl_q rfl rfl rfl (rd_loadK 0 (by kernel_rfl) hH rfl rfl rfl) ?_
 refine gl_q rfl rfl rfl (rd_err_ne (by kernel_rfl) rfl) ?_
 refine gl_dn rfl ?_
 refine sw_cond rfl rfl (fun hc1 => ?_) (fun hc1 => ?_)
 ·
  try simp only [bne_iff_ne, ne_eq] at hc1
  have hb0 : l.bad ≠ 0 := by simpa using hc1
  refine sw_sr ?_
  refine glo 3 [(20, Pp g 8)] ?_
  refine gl_q rfl rfl rfl (rd_loadK 0 (by kernel_rfl) hH rfl rfl rfl) ?_
  refine glo 1 [(8, errV l.bad)] ?_
  refine gl_dn rfl ?_
  refine sw_ret ?_
  refine thR ?_
  refine ret1 rfl rfl  ?_
  replace hH : Hp w w _ _ [_, _, _] := (hH.sublist (slk (slk (slk sln))))
  exact save_fin (saveL_badL hb0) rfl hR (hL) hH.turned
 try simp only [bne_eq_false_iff_eq] at hc1
 have hb0 : l.bad = 0 := by simpa using hc1
 refine sw_skip ?_
 refine sw_next ?_
 refine sw_sr ?_
 refine glo 3 [(0, Pp g 0), (1, .int .i64 t), (2, .int .i64 v), (3, .slice Ax qs.length cxx), (24, Pp g 1)] ?_
 refine gl_q rfl rfl rfl (rd_loadKA (m := 5) 0 (by kernel_rfl) hH rfl rfl (by kernel_rfl) [Ni l.c.term, Ni l.c.vote, Ni l.c.ix, Ni l.c.ah, .slice Ae es.length ce] rfl rfl) ?_
 refine gl_st (st_allocH rfl rfl rfl (cs := [.int .i64 0, .int .i64 0, .int .i64 0, .int .i64 0, .slice none 0 0]) (by kernel_rfl) hH ?_)
 clear hH; intro b1 w2 hH
 refine gl_st (st_storeKA (vs := [Ni l.c.term, Ni l.c.vote, Ni l.c.ix, Ni l.c.ah, .slice Ae es.length ce]) 3 rfl rfl rfl hH rfl rfl (by kernel_rfl) (by kernel_rfl) rfl (by simp) [Ni l.c.term, Ni l.c.vote, Ni l.c.ix, Ni l.c.ah, .slice Ae es.length ce] rfl ?_)
 clear hH; intro w3 hH
 refine gl_dn rfl ?_
 refine sw_sr ?_
 refine glo 3 [(0, Pp g 0), (1, .int .i64 t), (2, .int .i64 v), (3, .slice Ax qs.length cxx), (9, Pp b1 0), (26, .int .i64 t), (27, .int .i64 v), (28, Pp b1 0)] ?_
 refine gl_st (st_storeK (v := .int .i64 t) 3 rfl rfl rfl hH rfl rfl rfl (by kernel_rfl) rfl (by simp) ?_)
 clear hH; intro w4 hH
 refine glo 1 [(0, Pp g 0), (1, .int .i64 t), (2, .int .i64 v), (3, .slice Ax qs.length cxx), (9, Pp b1 0), (27, .int .i64 v), (29, Pp b1 1)] ?_
 refine gl_st (st_storeK (v := .int .i64 v) 3 rfl rfl rfl hH rfl rfl rfl (by kernel_rfl) rfl (by simp) ?_)
 clear hH; intro w5 hH
 refine gl_dn rfl ?_
 refine sw_seq ?_
 refine sw_sr ?_
 refine glo 1 [(0, Pp g 0), (1, .int .i64 t), (2, .int .i64 v), (3, .slice Ax qs.length cxx), (9, Pp b1 0), (30, .slice Ax qs.length cxx)] ?_
 refine gl_q rfl rfl rfl (rd_len (e := 64) (by kernel_rfl) rfl) ?_
 refine glo 1 [(0, Pp g 0), (1, .int .i64 t), (2, .int .i64 v), (3, .slice Ax qs.length cxx), (9, Pp b1 0), (30, .slice Ax qs.length cxx), (31, Ni qs.length), (32, .int .i64 0)] ?_
 refine gl_dn rfl ?_
 refine sw_block ?_
 replace hH := (hH.sublist (slk (slk (slk (slk sln)))))
 replace hH := hH.fr3.fr3.fr3.fr4
 replace hH : Hp w w5 _ _ [.blk b1 94 [.int .i64 t, .int .i64 v, Ni l.c.ix, Ni l.c.ah, .slice Ae es.length ce], .blk g 96 [Pp db 0, Ni l.c.term, Ni l.c.vote, Ni l.c.ix, Ni l.c.ah, .slice Ae es.length ce, Ni l.file, Ni l.long, errV l.bad], plO pl, .grp (dskO db mb ab D pe)] := hH
 refine sw_loop (γ := Nat × Cn × EQ × Option Addr × Nat × Pl) (fun (i, cx, es2, A2, c2, p2) => [(0, Pp g 0), (1, .int .i64 t), (2, .int .i64 v), (3, .slice Ax qs.length cxx), (9, Pp b1 0), (30, .slice Ax qs.length cxx), (31, Ni qs.length), (32, Ni i)]) (fun (i, cx, es2, A2, c2, p2) w_ => (i ≤ qs.length) ∧ (putsA l.c ((qs.map (·.1)).take i) = some cx) ∧ (CnR p2 cx es2 (.slice A2 es2.length c2)) ∧ ((pz pl).le (pz p2)) ∧ (cx.ix + cx.es.length < 9223372036854775808) ∧ Hp w w_ (off w (blksOf [lgO g db l.c (.slice Ae es.length ce) ((l.file : Nat) : Int) ((l.long : Nat) : Int) (errV l.bad), plO pl, .grp (dskO db mb ab D pe)])) (blksOf [lgO g db l.c (.slice Ae es.length ce) ((l.file : Nat) : Int) ((l.long : Nat) : Int) (errV l.bad), plO pl, .grp (dskO db mb ab D pe)]) [.blk b1 94 [.int .i64 t, .int .i64 v, Ni cx.ix, Ni cx.ah, .slice A2 es2.length c2], .blk g 96 [Pp db 0, Ni l.c.term, Ni l.c.vote, Ni l.c.ix, Ni l.c.ah, .slice Ae es.length ce, Ni l.file, Ni l.long, errV l.bad], plO p2, .grp (dskO db mb ab D pe)]) (fun (i, cx, es2, A2, c2, p2) => qs.length - i) (0, l.c, es, Ae, ce, pl) (Sub.of_eq (by kernel_rfl)) ?_ ?_
 · exact ⟨by omega, rfl, hL, Zone.le.refl _, hcx, hH⟩
 clear hH
 rintro ⟨i, cx, es2, A2, c2, p2⟩ w6 ⟨hi, hpu, hL2, hle, hcx2, hH⟩
 refine swk [(0, Pp g 0), (1, .int .i64 t), (2, .int .i64 v), (3, .slice Ax qs.length cxx), (9, Pp b1 0), (30, .slice Ax qs.length cxx), (31, Ni qs.length), (32, Ni i)] ?_
 refine sw_sr ?_
 refine glo 1 [(0, Pp g 0), (1, .int .i64 t), (2, .int .i64 v), (3, .slice Ax qs.length cxx), (9, Pp b1 0), (30, .slice Ax qs.length cxx), (31, Ni qs.length), (32, Ni i), (33, .bool (decide (((i : Nat) : Int) < ((qs.length : Nat) : Int))))] ?_
 refine gl_dn rfl ?_
 refine sw_seq ?_
 refine sw_cond rfl rfl (fun hc2 => ?_) (fun hc2 => ?_)
 ·
  try simp only [decide_eq_true_eq] at hc2
  refine sw_skip ?_
  refine sw_next ?_
  refine sw_seq ?_
  refine sw_block ?_
  obtain ⟨⟨⟨ix, tm, kd, dq⟩, vq⟩, hq⟩ : ∃ x, qs[i]? = some x := ⟨_, List.getElem?_eq_getElem (by omega)⟩
  have kq : RB (off w (blksOf [lgO g db l.c (.slice Ae es.length ce) ((l.file : Nat) : Int) ((l.long : Nat) : Int) (errV l.bad), plO pl, .grp (dskO db mb ab D pe)])) vq dq := hD _ (List.mem_of_getElem? hq)
  obtain ⟨Ad, cd, rfl, _, _⟩ := kq.row.form
  have hq1 : (qs.map (·.1))[i]? = some ⟨ix, tm, kd, dq⟩ := by rw [List.getElem?_map, hq]; rfl
  obtain ⟨ho1, ho2, ho3⟩ := hok _ (List.mem_of_getElem? hq)
  have hdq := hdl _ (List.mem_of_getElem? hq)
  simp only at ho1 ho2 ho3 hdq
  obtain ⟨hpx, hpa, hpn⟩ := putsA_len hpu
  rw [List.length_take, List.length_map] at hpn
  refine sw_sr ?_
  obtain ⟨p7, hi9, hp8⟩ := hE.idx i (by omega) (by decide)
  refine gl_q rfl rfl rfl (rd_idx (e := 64) (m := 4) (by kernel_rfl) (by kernel_rfl) rfl rfl hi9) ?_
  refine gl_q rfl rfl rfl (rd_loadZA (by kernel_rfl) hH hp8 rfl 0 rfl [.int .i64 ix, .int .i64 tm, .int .i64 kd, .slice Ad dq.length cd] (by kernel_rfl) (rowC_all eiC_len hq 0 _ rfl)) ?_
  refine gl_st (st_allocH rfl rfl rfl (cs := [.int .i64 0, .int .i64 0, .int .i64 0, .slice none 0 0]) (by kernel_rfl) hH ?_)
  clear hH; intro b10 w11 hH
  refine gl_st (st_storeKA (vs := [.int .i64 ix, .int .i64 tm, .int .i64 kd, .slice Ad dq.length cd]) 4 rfl rfl rfl hH rfl rfl (by kernel_rfl) (by kernel_rfl) rfl (by simp) [.int .i64 ix, .int .i64 tm, .int .i64 kd, .slice Ad dq.length cd] rfl ?_)
  clear hH; intro w12 hH
  refine gl_dn rfl ?_
  refine sw_sr ?_
  refine glo 1 [(0, Pp g 0), (1, .int .i64 t), (2, .int .i64 v), (3, .slice Ax qs.length cxx), (9, Pp b1 0), (11, Pp b10 0), (30, .slice Ax qs.length cxx), (31, Ni qs.length), (32, Ni i), (36, Pp b10 1)] ?_
  refine gl_q rfl rfl rfl (rd_loadK 4 (by kernel_rfl) hH rfl rfl rfl) ?_
  refine glo 2 [(0, Pp g 0), (1, .int .i64 t), (2, .int .i64 v), (3, .slice Ax qs.length cxx), (9, Pp b1 0), (11, Pp b10 0), (30, .slice Ax qs.length cxx), (31, Ni qs.length), (32, Ni i), (39, .bool (decide ((tm : Int) < (0 : Int))))] ?_
  refine gl_split 39 (b := decide ((tm : Int) < (0 : Int))) rfl (fun hg3 => ?_) (fun hg3 => ?_)
  ·
   try simp only [decide_eq_true_eq] at hg3
   have hnone := putsA_none hq1 hpu (if_pos (.inl (by simp only; omega)))
   refine glo 9 [(0, Pp g 0), (1, .int .i64 t), (2, .int .i64 v), (3, .slice Ax qs.length cxx), (9, Pp b1 0), (30, .slice Ax qs.length cxx), (31, Ni qs.length), (32, Ni i), (48, .bool true)] ?_
   refine gl_dn rfl ?_
   refine sw_true rfl rfl ?_
   refine sw_sr ?_
   refine glo 2 [(8, .iface 38 (.int .i64 1))] ?_
   refine gl_dn rfl ?_
   refine sw_ret ?_
   refine bkR ?_
   refine thR ?_
   refine thR ?_
   refine bkR ?_
   refine thR ?_
   refine ret1 rfl rfl  ?_
   replace hH := hH.fr4.fr4.fr4
   replace hH : Hp w w12 _ _ [_, _, _] := (hH.sublist (slk (slk (slk sln))))
   exact save_fin (saveL_none hb0 hnone) rfl hR (hL.mono hle) hH.turned
  try simp only [decide_eq_false_iff_not, Int.not_lt, Int.not_le] at hg3
  refine glo 1 [(0, Pp g 0), (1, .int .i64 t), (2, .int .i64 v), (3, .slice Ax qs.length cxx), (9, Pp b1 0), (11, Pp b10 0), (30, .slice Ax qs.length cxx), (31, Ni qs.length), (32, Ni i), (39, .bool false), (40, Pp b10 2)] ?_
  refine gl_q rfl rfl rfl (rd_loadK 4 (by kernel_rfl) hH rfl rfl rfl) ?_
  refine glo 3 [(0, Pp g 0), (1, .int .i64 t), (2, .int .i64 v), (3, .slice Ax qs.length cxx), (9, Pp b1 0), (11, Pp b10 0), (30, .slice Ax qs.length cxx), (31, Ni qs.length), (32, Ni i), (44, .bool (decide ((kd : Int) < (0 : Int))))] ?_
  refine gl_split 44 (b := decide ((kd : Int) < (0 : Int))) rfl (fun hg5 => ?_) (fun hg5 => ?_)
  ·
   try simp only [decide_eq_true_eq] at hg5
   have hnone := putsA_none hq1 hpu (if_pos (.inr (.inl (by simp only; omega))))
   refine glo 4 [(0, Pp g 0), (1, .int .i64 t), (2, .int .i64 v), (3, .slice Ax qs.length cxx), (9, Pp b1 0), (30, .slice Ax qs.length cxx), (31, Ni qs.length), (32, Ni i), (48, .bool true)] ?_
   refine gl_dn rfl ?_
   refine sw_true rfl rfl ?_
   refine sw_sr ?_
   refine glo 2 [(8, .iface 38 (.int .i64 1))] ?_
   refine gl_dn rfl ?_
   refine sw_ret ?_
   refine bkR ?_
   refine thR ?_
   refine thR ?_
   refine bkR ?_
   refine thR ?_
   refine ret1 rfl rfl  ?_
   replace hH := hH.fr4.fr4.fr4
   replace hH : Hp w w12 _ _ [_, _, _] := (hH.sublist (slk (slk (slk sln))))
   exact save_fin (saveL_none hb0 hnone) rfl hR (hL.mono hle) hH.turned
  try simp only [decide_eq_false_iff_not, Int.not_lt, Int.not_le] at hg5
  refine gl_q rfl rfl rfl (rd_loadKA (m := 4) 4 (by kernel_rfl) hH rfl rfl (by kernel_rfl) [.int .i64 ix, .int .i64 tm, .int .i64 kd, .slice Ad dq.length cd] rfl rfl) ?_
  replace hH : Hp w w12 _ _ ([_, _] ++ [_, _, _]) := hH.fr3.fr2
  refine gl_st (st_call rfl rfl rfl (by kernel_rfl) rfl (PutA_ct b1 t v cx _ _ es2 ⟨ix, tm, kd, dq⟩ p2 _ hH.mine hL2 (kq.mono hH.zoff) (by have := hL2.len; omega) (by have := hL2.len; omega) ⟨ho1, ho2, ho3⟩ (by simp only; omega) (by simp only; omega) hdq) ?_)
  rintro _ w13 ⟨bb, o2, rfl, hor, hF14⟩
  replace hH := hH.turns hF14; clear hF14
  replace hH : Hp w w13 _ _ [_, _, _, _] := hH
  refine glo 2 [(0, Pp g 0), (1, .int .i64 t), (2, .int .i64 v), (3, .slice Ax qs.length cxx), (9, Pp b1 0), (30, .slice Ax qs.length cxx), (31, Ni qs.length), (32, Ni i), (48, .bool (!bb))] ?_
  refine gl_dn rfl ?_
  refine sw_cond rfl rfl (fun hc7 => ?_) (fun hc7 => ?_)
  ·
   try simp only [Bool.not_eq_true'] at hc7
   have hbb : bb = false := by simpa using hc7
   obtain ⟨hp3, _, ho9⟩ := hor.resolve_right (fun h => by obtain ⟨_, _, _, _, _, h2, _⟩ := h; rw [h2] at hbb; cases hbb)
   replace hH := hH.fr4
   replace hH := do_back2 ho9 hH
   replace hH : Hp w w13 _ _ [.blk b1 94 [.int .i64 t, .int .i64 v, Ni cx.ix, Ni cx.ah, .slice A2 es2.length c2], plO p2, .blk g 96 [Pp db 0, Ni l.c.term, Ni l.c.vote, Ni l.c.ix, Ni l.c.ah, .slice Ae es.length ce, Ni l.file, Ni l.long, errV l.bad], .grp (dskO db mb ab D pe), .blk b10 64 [.int .i64 ix, .int .i64 tm, .int .i64 kd, .slice Ad dq.length cd]] := hH
   have hnone := putsA_none hq1 hpu hp3
   refine sw_sr ?_
   refine glo 2 [(8, .iface 38 (.int .i64 1))] ?_
   refine gl_dn rfl ?_
   refine sw_ret ?_
   refine bkR ?_
   refine thR ?_
   refine thR ?_
   refine bkR ?_
   refine thR ?_
   refine ret1 rfl rfl  ?_
   replace hH := hH.fr4.fr3.fr4
   replace hH : Hp w w13 _ _ [_, _, _] := (hH.sublist (slk (slk (slk sln))))
   exact save_fin (saveL_none hb0 hnone) rfl hR (hL.mono hle) hH.turned
  try simp only [Bool.not_eq_false'] at hc7
  have hbb : bb = true := by simpa using hc7
  obtain ⟨c3, es3, ve3, pl3, hp3, _, hnp, hL3, hle3, ho9⟩ := hor.resolve_left (fun h => by rw [h.2.1] at hbb; cases hbb)
  replace hH := hH.fr4
  obtain ⟨A3, ce3, rfl, _, _⟩ := hL3.row.form
  replace hH := do_back2 ho9 hH
  replace hH : Hp w w13 _ _ [.blk b1 94 [.int .i64 t, .int .i64 v, Ni c3.ix, Ni c3.ah, .slice A3 es3.length ce3], plO pl3, .blk g 96 [Pp db 0, Ni l.c.term, Ni l.c.vote, Ni l.c.ix, Ni l.c.ah, .slice Ae es.length ce, Ni l.file, Ni l.long, errV l.bad], .grp (dskO db mb ab D pe), .blk b10 64 [.int .i64 ix, .int .i64 tm, .int .i64 kd, .slice Ad dq.length cd]] := hH
  refine sw_skip ?_
  refine bkN ?_
  refine sw_next ?_
  refine sw_region ?_
  refine glo 1 [(0, Pp g 0), (1, .int .i64 t), (2, .int .i64 v), (3, .slice Ax qs.length cxx), (9, Pp b1 0), (30, .slice Ax qs.length cxx), (31, Ni qs.length), (50, .int .i64 (IntKind.i64.wrap (((i : Nat) : Int) + 1)))] ?_
  refine gl_cv 50 (Ni (i + 1)) (cv_i64 (by omega)) rfl ?_
  refine glo 1 [(0, Pp g 0), (1, .int .i64 t), (2, .int .i64 v), (3, .slice Ax qs.length cxx), (9, Pp b1 0), (30, .slice Ax qs.length cxx), (31, Ni qs.length), (32, Ni (i + 1))] ?_
  refine gl_done rfl ?_
  refine rnd_end (g := (i, cx, es2, A2, c2, p2)) (i + 1, c3, es3, A3, ce3, pl3) (by kernel_rfl) ?_ ?_
  replace hH := hH.fr4.fr3.fr4.fr4
  replace hH : Hp w w13 _ _ [_, _, _, _] := (hH.sublist (slk (slk (slk (slk sln)))))
  · exact ⟨by omega, putsA_next hq1 hpu hnp hp3, hL3, hle.trans hle3, putC_hx hp3 (by simp only [EA.en]; omega), hH⟩
  · show qs.length - (i + 1) < qs.length - i; omega
 try simp only [decide_eq_false_iff_not, Int.not_lt, Int.not_le] at hc2
 refine sw_exit ?_
 refine thX ?_
 refine thX ?_
 refine bkH ?_
 refine sw_next ?_
 refine sw_seq ?_
 have hie : (qs.map (·.1)).length ≤ i := by rw [List.length_map]; omega
 rw [List.take_of_length_le hie] at hpu
 have hpall := hpu
 have hpos := puts_at hpall
 obtain ⟨hpx, hpa, hpn⟩ := putsA_len hpall
 rw [List.length_map] at hpn
 refine sw_sr ?_
 refine glo 3 [(0, Pp g 0), (1, .int .i64 t), (2, .int .i64 v), (3, .slice Ax qs.length cxx), (9, Pp b1 0), (53, .bool (decide ((t : Int) < (0 : Int))))] ?_
 refine gl_split 53 (b := decide ((t : Int) < (0 : Int))) rfl (fun hg8 => ?_) (fun hg8 => ?_)
 ·
  try simp only [decide_eq_true_eq] at hg8
  have hneg : t < 0 ∨ v < 0 := .inl (by omega)
  refine glo 3 [(0, Pp g 0), (1, .int .i64 t), (2, .int .i64 v), (3, .slice Ax qs.length cxx), (9, Pp b1 0), (56, .bool true)] ?_
  refine gl_dn rfl ?_
  refine sw_true rfl rfl ?_
  refine sw_sr ?_
  refine glo 2 [(8, .iface 38 (.int .i64 1))] ?_
  refine gl_dn rfl ?_
  refine sw_ret ?_
  refine thR ?_
  refine ret1 rfl rfl  ?_
  replace hH := hH.fr4.fr4.fr4
  replace hH : Hp w w6 _ _ [_, _, _] := (hH.sublist (slk (slk (slk sln))))
  exact save_fin (saveL_neg hb0 hpall hneg) rfl hR (hL.mono hle) hH.turned
 try simp only [decide_eq_false_iff_not, Int.not_lt, Int.not_le] at hg8
 refine glo 3 [(0, Pp g 0), (1, .int .i64 t), (2, .int .i64 v), (3, .slice Ax qs.length cxx), (9, Pp b1 0), (56, .bool (decide ((v : Int) < (0 : Int))))] ?_
 refine gl_dn rfl ?_
 refine sw_cond rfl rfl (fun hc10 => ?_) (fun hc10 => ?_)
 ·
  try simp only [decide_eq_true_eq] at hc10
  have hneg : t < 0 ∨ v < 0 := by omega
  refine sw_sr ?_
  refine glo 2 [(8, .iface 38 (.int .i64 1))] ?_
  refine gl_dn rfl ?_
  refine sw_ret ?_
  refine thR ?_
  refine ret1 rfl rfl  ?_
  replace hH := hH.fr4.fr4.fr4
  replace hH : Hp w w6 _ _ [_, _, _] := (hH.sublist (slk (slk (slk sln))))
  exact save_fin (saveL_neg hb0 hpall hneg) rfl hR (hL.mono hle) hH.turned
 try simp only [decide_eq_false_iff_not, Int.not_lt, Int.not_le] at hc10
 have hneg : ¬ (t < 0 ∨ v < 0) := by omega
 refine sw_skip ?_
 refine sw_next ?_
 refine sw_seq ?_
 refine sw_sr ?_
 refine glo 1 [(0, Pp g 0), (1, .int .i64 t), (2, .int .i64 v), (3, .slice Ax qs.length cxx), (9, Pp b1 0), (58, .slice Ax qs.length cxx)] ?_
 refine gl_st (st_call rfl rfl rfl (by kernel_rfl) rfl (Contains_ct _ qs _ (hE.mono hH.zin) (fun q hq => (hD q hq).mono hH.zin) (by omega)) ?_)
 rintro _ w15 ⟨rfl, hF16⟩
 replace hH := hH.call hF16; clear hF16
 refine gl_dn rfl ?_
 refine sw_cond rfl rfl (fun hc11 => ?_) (fun hc11 => ?_)
 ·
  try simp only [decide_eq_true_eq] at hc11
  have hlong := hc11
  refine sw_sr ?_
  refine glo 2 [(8, .iface 38 (.int .i64 2))] ?_
  refine gl_dn rfl ?_
  refine sw_ret ?_
  refine thR ?_
  refine ret1 rfl rfl  ?_
  replace hH := hH.fr4.fr4.fr4
  replace hH : Hp w w15 _ _ [_, _, _] := (hH.sublist (slk (slk (slk sln))))
  exact save_fin (saveL_long hb0 hpall hneg hlong) rfl hR (hL.mono hle) hH.turned
 try simp only [decide_eq_false_iff_not, Int.not_lt, Int.not_le] at hc11
 have hlong : ¬ (qs.map (·.1)).any (fun e => decide (65536 < e.d.length)) = true := by rw [hc11]; simp
 refine sw_skip ?_
 refine sw_next ?_
 refine sw_sr ?_
 refine glo 1 [(0, Pp g 0), (1, .int .i64 t), (2, .int .i64 v), (3, .slice Ax qs.length cxx), (9, Pp b1 0), (12, .slice none 0 0)] ?_
 refine gl_dn rfl ?_
 obtain ⟨T, rfl⟩ : ∃ T : Nat, t = T := ⟨t.toNat, by omega⟩
 obtain ⟨V, rfl⟩ : ∃ V : Nat, v = V := ⟨v.toNat, by omega⟩
 replace hH := hH.nilRow 5 1
 have hfe := frames_ei hE hpos
 have hfo := ei_ok hD hok
 refine sw_cut (γ := List UInt8 × Option Addr × Nat) (fun (b0, A0, c0) => [(0, Pp g 0), (3, .slice Ax qs.length cxx), (9, Pp b1 0), (12, .slice A0 b0.length c0)]) (fun (b0, A0, c0) w_ => (b0 ++ enB (enQ qs) = (saveB l.c T V ((qs.map (·.1)).map EA.en))) ∧ Hp w w_ (off w (blksOf [lgO g db l.c (.slice Ae es.length ce) ((l.file : Nat) : Int) ((l.long : Nat) : Int) (errV l.bad), plO pl, .grp (dskO db mb ab D pe)])) (blksOf [lgO g db l.c (.slice Ae es.length ce) ((l.file : Nat) : Int) ((l.long : Nat) : Int) (errV l.bad), plO pl, .grp (dskO db mb ab D pe)]) [.row (.slice A0 b0.length c0) 5 1 b0.length (bv b0), .blk b1 94 [Ni T, Ni V, Ni cx.ix, Ni cx.ah, .slice A2 es2.length c2], .blk g 96 [Pp db 0, Ni l.c.term, Ni l.c.vote, Ni l.c.ix, Ni l.c.ah, .slice Ae es.length ce, Ni l.file, Ni l.long, errV l.bad], plO p2, .grp (dskO db mb ab D pe)]) ?_ ?_
 ·
  refine sw_cut (γ := Bool) (fun ch => [(0, Pp g 0), (1, Ni T), (2, Ni V), (3, .slice Ax qs.length cxx), (9, Pp b1 0), (12, .slice none 0 0), (76, .bool ch)]) (fun ch w_ => (ch = true ↔ (T ≠ l.c.term ∨ V ≠ l.c.vote)) ∧ Hp w w_ (off w (blksOf [lgO g db l.c (.slice Ae es.length ce) ((l.file : Nat) : Int) ((l.long : Nat) : Int) (errV l.bad), plO pl, .grp (dskO db mb ab D pe)])) (blksOf [lgO g db l.c (.slice Ae es.length ce) ((l.file : Nat) : Int) ((l.long : Nat) : Int) (errV l.bad), plO pl, .grp (dskO db mb ab D pe)]) [.blk b1 94 [Ni T, Ni V, Ni cx.ix, Ni cx.ah, .slice A2 es2.length c2], .blk g 96 [Pp db 0, Ni l.c.term, Ni l.c.vote, Ni l.c.ix, Ni l.c.ah, .slice Ae es.length ce, Ni l.file, Ni l.long, errV l.bad], plO p2, .grp (dskO db mb ab D pe), .row (.slice none 0 0) 5 1 0 []]) ?_ ?_
  ·
   refine sw_region ?_
   refine glo 5 [(0, Pp g 0), (1, Ni T), (2, Ni V), (3, .slice Ax qs.length cxx), (9, Pp b1 0), (12, .slice none 0 0), (61, Ni T), (65, Pp g 1)] ?_
   refine gl_q rfl rfl rfl (rd_loadK 1 (by kernel_rfl) hH rfl rfl rfl) ?_
   refine glo 2 [(0, Pp g 0), (1, Ni T), (2, Ni V), (3, .slice Ax qs.length cxx), (9, Pp b1 0), (12, .slice none 0 0), (68, .bool (((T : Nat) : Int) != ((l.c.term : Nat) : Int)))] ?_
   refine gl_split 68 (b := ((T : Nat) : Int) != ((l.c.term : Nat) : Int)) rfl (fun hg12 => ?_) (fun hg12 => ?_)
   ·
    try simp only [bne_iff_ne, ne_eq] at hg12
    refine glo 8 [(0, Pp g 0), (1, Ni T), (2, Ni V), (3, .slice Ax qs.length cxx), (9, Pp b1 0), (12, .slice none 0 0), (76, .bool true)] ?_
    refine gl_done rfl ?_
    refine cut_end (true) (Sub.of_eq (by kernel_rfl)) ?_
    exact ⟨by first | exact ⟨fun _ => .inl (by omega), fun _ => rfl⟩ | (rw [bne_iff_ne]; omega), (hH.sublist (slk (slk (slk (slk (slk sln))))))⟩
   try simp only [bne_eq_false_iff_eq] at hg12
   refine glo 5 [(0, Pp g 0), (1, Ni T), (2, Ni V), (3, .slice Ax qs.length cxx), (9, Pp b1 0), (12, .slice none 0 0), (68, .bool false), (69, Ni V), (73, Pp g 2)] ?_
   refine gl_q rfl rfl rfl (rd_loadK 1 (by kernel_rfl) hH rfl rfl rfl) ?_
   refine glo 2 [(0, Pp g 0), (1, Ni T), (2, Ni V), (3, .slice Ax qs.length cxx), (9, Pp b1 0), (12, .slice none 0 0), (76, .bool (((V : Nat) : Int) != ((l.c.vote : Nat) : Int)))] ?_
   refine gl_done rfl ?_
   refine cut_end (((V : Nat) : Int) != ((l.c.vote : Nat) : Int)) (Sub.of_eq (by kernel_rfl)) ?_
   exact ⟨by first | exact ⟨fun _ => .inl (by omega), fun _ => rfl⟩ | (rw [bne_iff_ne]; omega), (hH.sublist (slk (slk (slk (slk (slk sln))))))⟩
  clear hH
  rintro ch w17 ⟨hch0, hH⟩
  refine swk [(0, Pp g 0), (1, Ni T), (2, Ni V), (3, .slice Ax qs.length cxx), (9, Pp b1 0), (12, .slice none 0 0), (76, .bool ch)] ?_
  refine sw_cond rfl rfl (fun hc13 => ?_) (fun hc13 => ?_)
  ·
   have hch := hc13
   refine sw_region ?_
   refine glo 3 [(0, Pp g 0), (3, .slice Ax qs.length cxx), (9, Pp b1 0), (79, .agg #[.int .i64 1, Ni T, Ni V, .int .i64 0, .slice none 0 0])] ?_
   refine gl_st (st_call rfl rfl rfl (by kernel_rfl) rfl (RecFrame_ct 1 T V 0 _ [] _ (RB.nil _) (by omega) (by omega) (by omega) (by omega)) ?_)
   rintro _ w20 ⟨v18, rfl, hF21⟩
   replace hH := hH.call hF21; clear hF21
   obtain ⟨A22, c23, rfl, hl24, hm25⟩ := hH.row_form 5 rfl
   refine glo 1 [(0, Pp g 0), (3, .slice Ax qs.length cxx), (9, Pp b1 0), (12, .slice A22 ((recB ⟨1, T, V, 0, []⟩).length) c23)] ?_
   refine gl_done rfl ?_
   refine cut_end (recB ⟨1, T, V, 0, []⟩, A22, c23) (Sub.of_eq (by kernel_rfl)) ?_
   replace hH := hH.fr4.fr4.fr4.fr4.fr6
   replace hH : Hp w w20 _ _ [_, _, _, _, _] := (hH.sublist (slk (slk (slk (slk (slk sln))))))
   exact ⟨by rw [ei_en]; unfold saveB; rw [if_pos (hch0.1 hch)] <;> rfl, hH⟩
  have hch := hc13
  refine sw_skip ?_
  refine cut_end ([], none, 0) (Sub.of_eq (by kernel_rfl)) ?_
  replace hH := hH.fr4.fr4.fr4.fr4.fr5
  replace hH : Hp w w17 _ _ [_, _, _, _, _] := (hH.sublist (slk (slk (slk (slk (slk sln))))))
  exact ⟨by rw [ei_en]; unfold saveB; rw [if_neg (fun h => by have := hch0.2 h; rw [hch] at this; cases this)] <;> rfl, hH.cast rfl⟩
 clear hH
 rintro ⟨b0, A0, c0⟩ w26 ⟨hsb, hH⟩
 refine swk [(0, Pp g 0), (3, .slice Ax qs.length cxx), (9, Pp b1 0), (12, .slice A0 b0.length c0)] ?_
 refine sw_seq ?_
 refine sw_sr ?_
 have hbl : (b0 ++ enB (enQ qs)).length ≤ 1073741824 := by rw [hsb]; exact hbig _ _ (by omega) (by omega)
 rw [List.length_append] at hbl
 refine glo 2 [(0, Pp g 0), (9, Pp b1 0), (81, .slice A0 b0.length c0), (82, .slice Ax qs.length cxx)] ?_
 replace hH : Hp w w26 _ _ ([_] ++ [_, _, _, _]) := hH
 refine gl_st (st_call rfl rfl rfl (by kernel_rfl) rfl (Frames_ct _ _ b0 (enQ qs) _ hH.mine (hfe.mono hH.zoff) (fun q hq => en_mono (hfo q hq) hH.zoff) (by omega) (by rw [List.length_map]; omega)) ?_)
 rintro _ w27 ⟨vb, rfl, hF28⟩
 replace hH := hH.turns hF28; clear hF28
 replace hH : Hp w w27 _ _ [_, _, _, _, _] := hH
 rw [hsb] at hH
 obtain ⟨A29, c30, rfl, hl31, hm32⟩ := hH.row_form 4 rfl
 refine glo 1 [(0, Pp g 0), (9, Pp b1 0), (12, .slice A29 ((saveB l.c T V ((qs.map (·.1)).map EA.en)).length) c30)] ?_
 refine gl_dn rfl ?_
 refine sw_sr ?_
 refine glo 1 [(0, Pp g 0), (9, Pp b1 0), (12, .slice A29 ((saveB l.c T V ((qs.map (·.1)).map EA.en)).length) c30), (84, .slice A29 ((saveB l.c T V ((qs.map (·.1)).map EA.en)).length) c30)] ?_
 refine gl_q rfl rfl rfl (rd_len (e := 5) (by kernel_rfl) rfl) ?_
 refine glo 1 [(0, Pp g 0), (9, Pp b1 0), (12, .slice A29 ((saveB l.c T V ((qs.map (·.1)).map EA.en)).length) c30), (86, .bool ((((saveB l.c T V ((qs.map (·.1)).map EA.en)).length : Nat) : Int) == (0 : Int)))] ?_
 refine gl_dn rfl ?_
 refine sw_cond rfl rfl (fun hc14 => ?_) (fun hc14 => ?_)
 ·
  try simp only [beq_iff_eq] at hc14
  have hbn : saveB l.c (T : Int).toNat (V : Int).toNat ((qs.map (·.1)).map EA.en) = [] := List.eq_nil_of_length_eq_zero (by rw [Int.toNat_natCast, Int.toNat_natCast]; omega)
  refine sw_sr ?_
  refine glo 1 [(8, .nilIface)] ?_
  refine gl_dn rfl ?_
  refine sw_ret ?_
  refine thR ?_
  refine ret1 rfl rfl  ?_
  replace hH := hH.fr4.fr4.fr4
  replace hH : Hp w w27 _ _ [_, _, _] := (hH.sublist (slk (slk (slk sln))))
  exact save_fin (saveL_nil hb0 hpall hneg hlong hbn) rfl hR (hL.mono hle) hH.turned
 try simp only [beq_eq_false_iff_ne, ne_eq] at hc14
 have hbn : (saveB l.c T V ((qs.map (·.1)).map EA.en)) ≠ [] := fun h => by have := congrArg List.length h; simp only [List.length_nil] at this; omega
 have hbz := hbig T V (by omega) (by omega)
 refine sw_skip ?_
 refine sw_next ?_
 replace hH := hH.fr5.fr5.fr5.fr4.fr5
 refine sw_cut (γ := Nat × Nat) (fun (fi, lo) => [(0, Pp g 0), (9, Pp b1 0), (12, .slice A29 ((saveB l.c T V ((qs.map (·.1)).map EA.en)).length) c30)]) (fun (fi, lo) w_ => ((if 1024 ≤ l.long then l.file + 1 else l.file) = fi) ∧ ((if 1024 ≤ l.long then 0 else l.long) = lo) ∧ Hp w w_ (off w (blksOf [lgO g db l.c (.slice Ae es.length ce) ((l.file : Nat) : Int) ((l.long : Nat) : Int) (errV l.bad), plO pl, .grp (dskO db mb ab D pe)])) (blksOf [lgO g db l.c (.slice Ae es.length ce) ((l.file : Nat) : Int) ((l.long : Nat) : Int) (errV l.bad), plO pl, .grp (dskO db mb ab D pe)]) [.blk g 96 [Pp db 0, Ni l.c.term, Ni l.c.vote, Ni l.c.ix, Ni l.c.ah, .slice Ae es.length ce, Ni fi, Ni lo, errV l.bad], .blk b1 94 [Ni T, Ni V, Ni cx.ix, Ni cx.ah, .slice A2 es2.length c2], plO p2, .grp (dskO db mb ab D pe), .row (.slice A29 ((saveB l.c T V ((qs.map (·.1)).map EA.en)).length) c30) 5 1 ((saveB l.c T V ((qs.map (·.1)).map EA.en)).length) (bv (saveB l.c T V ((qs.map (·.1)).map EA.en)))]) ?_ ?_
 ·
  refine sw_sr ?_
  refine glo 3 [(0, Pp g 0), (9, Pp b1 0), (12, .slice A29 ((saveB l.c T V ((qs.map (·.1)).map EA.en)).length) c30), (89, Pp g 7)] ?_
  refine gl_q rfl rfl rfl (rd_loadK 0 (by kernel_rfl) hH rfl rfl rfl) ?_
  refine glo 1 [(0, Pp g 0), (9, Pp b1 0), (12, .slice A29 ((saveB l.c T V ((qs.map (·.1)).map EA.en)).length) c30), (91, .bool (decide (((l.long : Nat) : Int) ≥ (1024 : Int))))] ?_
  refine gl_dn rfl ?_
  refine sw_cond rfl rfl (fun hc15 => ?_) (fun hc15 => ?_)
  ·
   try simp only [decide_eq_true_eq] at hc15
   refine sw_region ?_
   refine glo 5 [(0, Pp g 0), (9, Pp b1 0), (12, .slice A29 ((saveB l.c T V ((qs.map (·.1)).map EA.en)).length) c30), (92, Pp g 0), (93, Pp g 0), (96, Pp g 6)] ?_
   refine gl_q rfl rfl rfl (rd_loadK 0 (by kernel_rfl) hH rfl rfl rfl) ?_
   refine glo 1 [(0, Pp g 0), (9, Pp b1 0), (12, .slice A29 ((saveB l.c T V ((qs.map (·.1)).map EA.en)).length) c30), (92, Pp g 0), (93, Pp g 0), (98, .int .i64 (IntKind.i64.wrap (((l.file : Nat) : Int) + 1)))] ?_
   refine gl_cv 98 (Ni (l.file + 1)) (cv_i64 (by omega)) rfl ?_
   refine glo 2 [(0, Pp g 0), (9, Pp b1 0), (12, .slice A29 ((saveB l.c T V ((qs.map (·.1)).map EA.en)).length) c30), (93, Pp g 0), (98, Ni (l.file + 1)), (100, Pp g 6)] ?_
   refine gl_st (st_storeK (v := Ni (l.file + 1)) 0 rfl rfl rfl hH rfl rfl rfl (by kernel_rfl) rfl (by simp) ?_)
   clear hH; intro w33 hH
   refine glo 2 [(0, Pp g 0), (9, Pp b1 0), (12, .slice A29 ((saveB l.c T V ((qs.map (·.1)).map EA.en)).length) c30), (102, Pp g 7)] ?_
   refine gl_st (st_storeK (v := .int .i64 0) 0 rfl rfl rfl hH rfl rfl rfl (by kernel_rfl) rfl (by simp) ?_)
   clear hH; intro w34 hH
   refine gl_done rfl ?_
   refine cut_end (l.file + 1, 0) (Sub.of_eq (by kernel_rfl)) ?_
   exact ⟨if_pos (by omega), if_pos (by omega), hH⟩
  try simp only [decide_eq_false_iff_not, Int.not_lt, Int.not_le] at hc15
  refine sw_skip ?_
  refine cut_end (l.file, l.long) (Sub.of_eq (by kernel_rfl)) ?_
  exact ⟨if_neg (by omega), if_neg (by omega), hH⟩
 clear hH
 rintro ⟨fi, lo⟩ w35 ⟨hfi, hlo0, hH⟩
 have hfi2 : fi ≤ l.file + 1 := by rw [← hfi]; split <;> omega
 have hlo2 : lo ≤ l.long := by rw [← hlo0]; split <;> omega
 refine swk [(0, Pp g 0), (9, Pp b1 0), (12, .slice A29 ((saveB l.c T V ((qs.map (·.1)).map EA.en)).length) c30)] ?_
 refine sw_sr ?_
 refine glo 3 [(0, Pp g 0), (9, Pp b1 0), (12, .slice A29 ((saveB l.c T V ((qs.map (·.1)).map EA.en)).length) c30), (103, Pp g 0), (105, Pp g 7)] ?_
 refine gl_q rfl rfl rfl (rd_loadK 0 (by kernel_rfl) hH rfl rfl rfl) ?_
 refine glo 1 [(0, Pp g 0), (9, Pp b1 0), (12, .slice A29 ((saveB l.c T V ((qs.map (·.1)).map EA.en)).length) c30), (103, Pp g 0), (106, Ni lo), (107, .slice A29 ((saveB l.c T V ((qs.map (·.1)).map EA.en)).length) c30)] ?_
 refine gl_q rfl rfl rfl (rd_len (e := 5) (by kernel_rfl) rfl) ?_
 refine glo 1 [(0, Pp g 0), (9, Pp b1 0), (12, .slice A29 ((saveB l.c T V ((qs.map (·.1)).map EA.en)).length) c30), (103, Pp g 0), (109, .int .i64 (IntKind.i64.wrap (((lo : Nat) : Int) + (((saveB l.c T V ((qs.map (·.1)).map EA.en)).length : Nat) : Int))))] ?_
 refine gl_cv 109 (Ni (lo + ((saveB l.c T V ((qs.map (·.1)).map EA.en)).length))) (cv_i64 (by omega)) rfl ?_
 refine glo 2 [(0, Pp g 0), (9, Pp b1 0), (12, .slice A29 ((saveB l.c T V ((qs.map (·.1)).map EA.en)).length) c30), (109, Ni (lo + ((saveB l.c T V ((qs.map (·.1)).map EA.en)).length))), (111, Pp g 7)] ?_
 refine gl_st (st_storeK (v := Ni (lo + ((saveB l.c T V ((qs.map (·.1)).map EA.en)).length))) 0 rfl rfl rfl hH rfl rfl rfl (by kernel_rfl) rfl (by simp) ?_)
 clear hH; intro w36 hH
 refine gl_dn rfl ?_
 refine sw_seq ?_
 refine sw_seq ?_
 have hsv := saveL_w (D := D) hb0 hpall hlong (T := T) (V := V) rfl hbn hfi (lo := lo + (saveB l.c T V ((qs.map (·.1)).map EA.en)).length) (by rw [hlo0])
 have hT9 := hTf fi hfi2
 refine sw_draw (by kernel_rfl) (fun w_ => Hp w w_ (off w (blksOf [lgO g db l.c (.slice Ae es.length ce) ((l.file : Nat) : Int) ((l.long : Nat) : Int) (errV l.bad), plO pl, .grp (dskO db mb ab D pe)])) (blksOf [lgO g db l.c (.slice Ae es.length ce) ((l.file : Nat) : Int) ((l.long : Nat) : Int) (errV l.bad), plO pl, .grp (dskO db mb ab D pe)]) [.blk b1 94 [Ni T, Ni V, Ni cx.ix, Ni cx.ah, .slice A2 es2.length c2], plO p2, .row (.slice A29 ((saveB l.c T V ((qs.map (·.1)).map EA.en)).length) c30) 5 1 ((saveB l.c T V ((qs.map (·.1)).map EA.en)).length) (bv (saveB l.c T V ((qs.map (·.1)).map EA.en)))]) ?_
 replace hH := hH.drew
 generalize { w36 with drawn := w36.drawn + 1 } = w37 at hH ⊢
 have hS9 := hH.sublist (slc (slk (slk (slc (slk sln)))))
 refine gdo 8 [0,1,2,3,5,6,7,10] [(0, Pp g 0), (9, Pp b1 0), (112, Pp g 0), (115, Pp g 0), (119, Pp g 6), (122, .slice A29 ((saveB l.c T V ((qs.map (·.1)).map EA.en)).length) c30)] hS9 (PQ.th (PQ.th PQ.body)) ?_
 refine gd_st2 4 8 (by kernel_rfl) ?_ ?_
 ·
  refine st_q rfl rfl rfl (rd_loadK 0 (by kernel_rfl) hH rfl rfl rfl) ?_
  refine ⟨hS9, ?_⟩
  refine gdk [(0, Pp g 0), (9, Pp b1 0), (112, Pp g 0), (116, Pp db 0), (119, Pp g 6), (122, .slice A29 ((saveB l.c T V ((qs.map (·.1)).map EA.en)).length) c30)] ?_
  refine gds 8 (st_q rfl rfl rfl (rd_loadK 0 (by kernel_rfl) hH rfl rfl rfl) ?_)
  refine ⟨hS9, ?_⟩
  refine gds 9 (st_call rfl rfl rfl (by kernel_rfl) rfl (Name_ct fi _ (by omega) (hT9.now hH)) ?_)
  rintro _ w38 ⟨rfl, hF39⟩
  replace hH := hH.call hF39; clear hF39
  replace hS9 := hH.sublist (slc (slk (slk (slc (slk sln)))))
  refine ⟨hS9, ?_⟩
  obtain ⟨R40, hr41⟩ : ∃ R, doD D 0 (nameF fi) (saveB l.c T V ((qs.map (·.1)).map EA.en)) 0 = R := ⟨_, rfl⟩
  replace hH : Hp w w38 _ _ ([_] ++ [_, _, _, _]) := hH.fr4
  refine gds 11 (st_call rfl rfl rfl (by kernel_rfl) rfl (by have h9 := Append_ct db mb ab D pe (nameF fi) _ (saveB l.c T V ((qs.map (·.1)).map EA.en)) M _ hH.mine hR hA hG (by omega) (by have := nameF_short fi (by omega); omega) (zoff_row (mine := [.grp (dskO db mb ab D pe)]) hH 3 rfl) (by omega) (by omega); rw [hr41] at h9; exact h9) ?_)
  rintro _ w44 ⟨pe42, rfl, hR43, hF45⟩
  replace hH := hH.turns hF45; clear hF45
  replace hH : Hp w w44 _ _ [_, _, _, _, _] := hH
  have hAR40 : ArOk R40.1.ar := by rw [← hr41]; exact arOk_do hA _ _ _ _
  have hGR40 : Good R40.1.fs (M + (saveB l.c T V ((qs.map (·.1)).map EA.en)).length) := by rw [← hr41]; exact good_doD hG _ _ _ _
  replace hS9 := hH.sublist (slc (slk (slk (slk sln))))
  refine ⟨hS9, ?_⟩
  refine gdk [(0, Pp g 0), (9, Pp b1 0), (112, Pp g 0), (123, errV R40.2)] ?_
  refine gdo 2 [12,13] [(0, Pp g 0), (9, Pp b1 0), (123, errV R40.2), (125, Pp g 8)] hS9 (PQ.th (PQ.th PQ.body)) ?_
  refine gds 14 (st_storeK (v := errV R40.2) 0 rfl rfl rfl hH rfl rfl (errW_one _ _) (by kernel_rfl) rfl (by simp) ?_)
  clear hH; intro w46 hH
  replace hS9 := hH.sublist (slc (slk (slk (slk sln))))
  refine ⟨hS9, ?_⟩
  refine gdn [(0, Pp g 0), (9, Pp b1 0)] ?_
  refine sw_next ?_
  refine sw_sr ?_
  refine glo 3 [(0, Pp g 0), (9, Pp b1 0), (128, Pp g 8)] ?_
  refine gl_q rfl rfl rfl (rd_loadK 0 (by kernel_rfl) hH rfl rfl rfl) ?_
  refine gl_q rfl rfl rfl (rd_err_eq (by kernel_rfl) rfl) ?_
  refine gl_dn rfl ?_
  refine sw_cond rfl rfl (fun hc16 => ?_) (fun hc16 => ?_)
  ·
   try simp only [beq_iff_eq] at hc16
   have hz1 := hc16
   refine sw_draw (by kernel_rfl) (fun w_ => Hp w w_ (off w (blksOf [lgO g db l.c (.slice Ae es.length ce) ((l.file : Nat) : Int) ((l.long : Nat) : Int) (errV l.bad), plO pl, .grp (dskO db mb ab D pe)])) (blksOf [lgO g db l.c (.slice Ae es.length ce) ((l.file : Nat) : Int) ((l.long : Nat) : Int) (errV l.bad), plO pl, .grp (dskO db mb ab D pe)]) [.blk b1 94 [Ni T, Ni V, Ni cx.ix, Ni cx.ah, .slice A2 es2.length c2], plO p2, .row (.slice A29 ((saveB l.c T V ((qs.map (·.1)).map EA.en)).length) c30) 5 1 ((saveB l.c T V ((qs.map (·.1)).map EA.en)).length) (bv (saveB l.c T V ((qs.map (·.1)).map EA.en)))]) ?_
   replace hH := hH.drew
   generalize { w46 with drawn := w46.drawn + 1 } = w47 at hH ⊢
   have hS9 := hH.sublist (slc (slk (slk (slk sln))))
   refine gdo 7 [0,1,2,3,5,6,7] [(0, Pp g 0), (9, Pp b1 0), (131, Pp g 0), (134, Pp g 0), (138, Pp g 6)] hS9 (PQ.th PQ.body) ?_
   refine gd_st2 4 8 (by kernel_rfl) ?_ ?_
   ·
    refine st_q rfl rfl rfl (rd_loadK 0 (by kernel_rfl) hH rfl rfl rfl) ?_
    refine ⟨hS9, ?_⟩
    refine gdk [(0, Pp g 0), (9, Pp b1 0), (131, Pp g 0), (135, Pp db 0), (138, Pp g 6)] ?_
    refine gds 8 (st_q rfl rfl rfl (rd_loadK 0 (by kernel_rfl) hH rfl rfl rfl) ?_)
    refine ⟨hS9, ?_⟩
    refine gds 9 (st_call rfl rfl rfl (by kernel_rfl) rfl (Name_ct fi _ (by omega) (hT9.now hH)) ?_)
    rintro _ w48 ⟨rfl, hF49⟩
    replace hH := hH.call hF49; clear hF49
    replace hS9 := hH.sublist (slc (slk (slk (slk sln))))
    refine ⟨hS9, ?_⟩
    obtain ⟨R50, hr51⟩ : ∃ R, doD R40.1 1 (nameF fi) [] 0 = R := ⟨_, rfl⟩
    replace hH : Hp w w48 _ _ ([_] ++ [_, _, _, _]) := hH.fr5
    refine gds 10 (st_call rfl rfl rfl (by kernel_rfl) rfl (by have h9 := Sync_ct db mb ab R40.1 pe42 (nameF fi) (M + (saveB l.c T V ((qs.map (·.1)).map EA.en)).length) _ hH.mine hR43 hAR40 hGR40 (by omega) (by have := nameF_short fi (by omega); omega); rw [hr51] at h9; exact h9) ?_)
    rintro _ w54 ⟨pe52, rfl, hR53, hF55⟩
    replace hH := hH.turns hF55; clear hF55
    replace hH : Hp w w54 _ _ [_, _, _, _, _] := hH
    have hAR50 : ArOk R50.1.ar := by rw [← hr51]; exact arOk_do hAR40 _ _ _ _
    replace hS9 := hH.sublist (slc (slk (slk (slk sln))))
    refine ⟨hS9, ?_⟩
    refine gdk [(0, Pp g 0), (9, Pp b1 0), (131, Pp g 0), (141, errV R50.2)] ?_
    refine gdo 2 [11,12] [(0, Pp g 0), (9, Pp b1 0), (141, errV R50.2), (143, Pp g 8)] hS9 (PQ.th PQ.body) ?_
    refine gds 13 (st_storeK (v := errV R50.2) 0 rfl rfl rfl hH rfl rfl (errW_one _ _) (by kernel_rfl) rfl (by simp) ?_)
    clear hH; intro w56 hH
    replace hS9 := hH.sublist (slc (slk (slk (slk sln))))
    refine ⟨hS9, ?_⟩
    refine gdn [(0, Pp g 0), (9, Pp b1 0)] ?_
    refine sw_next ?_
    refine sw_seq ?_
    refine sw_sr ?_
    refine glo 3 [(0, Pp g 0), (9, Pp b1 0), (146, Pp g 8)] ?_
    refine gl_q rfl rfl rfl (rd_loadK 0 (by kernel_rfl) hH rfl rfl rfl) ?_
    refine gl_q rfl rfl rfl (rd_err_eq (by kernel_rfl) rfl) ?_
    refine gl_dn rfl ?_
    refine sw_cond rfl rfl (fun hc17 => ?_) (fun hc17 => ?_)
    ·
     try simp only [beq_iff_eq] at hc17
     have hz2 := hc17
     refine sw_region ?_
     refine glo 1 [(0, Pp g 0), (9, Pp b1 0), (149, Pp g 0)] ?_
     refine gl_q rfl rfl rfl (rd_loadKA (m := 5) 1 (by kernel_rfl) hH rfl rfl (by kernel_rfl) [Ni T, Ni V, Ni cx.ix, Ni cx.ah, .slice A2 es2.length c2] rfl rfl) ?_
     refine glo 2 [(0, Pp g 0), (150, .agg #[Ni T, Ni V, Ni cx.ix, Ni cx.ah, .slice A2 es2.length c2]), (152, Pp g 1)] ?_
     refine gl_st (st_storeKA (vs := [Ni T, Ni V, Ni cx.ix, Ni cx.ah, .slice A2 es2.length c2]) 0 rfl rfl rfl hH rfl rfl (by kernel_rfl) (by kernel_rfl) rfl (by simp) [Pp db 0, Ni T, Ni V, Ni cx.ix, Ni cx.ah, .slice A2 es2.length c2, Ni fi, Ni (lo + ((saveB l.c T V ((qs.map (·.1)).map EA.en)).length)), errV R50.2] rfl ?_)
     clear hH; intro w57 hH
     refine gl_done rfl ?_
     refine sw_next ?_
     refine sw_sr ?_
     refine glo 3 [(155, Pp g 8)] ?_
     refine gl_q rfl rfl rfl (rd_loadK 0 (by kernel_rfl) hH rfl rfl rfl) ?_
     refine glo 1 [(8, errV R50.2)] ?_
     refine gl_dn rfl ?_
     refine sw_ret ?_
     refine ret1 rfl rfl  ?_
     replace hH := hH.fr5.fr4.fr3
     replace hH : Hp w w57 _ _ [_, _, _] := (hH.sublist (slk (slk (slk sln))))
     rw [hz2] at hH ⊢
     exact save_fin (hsv.trans (saveW_3 hr41 hz1 hr51 hz2)) rfl hR53 ⟨hL2.fst, hL2.row, hL2.ok⟩ hH.turned
    try simp only [beq_eq_false_iff_ne, ne_eq] at hc17
    have hz2 := hc17
    refine sw_skip ?_
    refine sw_next ?_
    refine sw_sr ?_
    refine glo 3 [(155, Pp g 8)] ?_
    refine gl_q rfl rfl rfl (rd_loadK 0 (by kernel_rfl) hH rfl rfl rfl) ?_
    refine glo 1 [(8, errV R50.2)] ?_
    refine gl_dn rfl ?_
    refine sw_ret ?_
    refine ret1 rfl rfl  ?_
    replace hH := hH.fr5.fr4.fr3
    replace hH : Hp w w56 _ _ [_, _, _] := (hH.sublist (slk (slk (slk sln))))
    exact save_fin (hsv.trans (saveW_2 hr41 hz1 hr51 hz2)) rfl hR53 (hL.mono hle) hH.turned
   ·
    refine st_q rfl rfl rfl (rd_loadK 0 (by kernel_rfl) hH rfl rfl rfl) ?_
    refine ⟨hS9, ?_⟩
    refine gdk [(0, Pp g 0), (9, Pp b1 0), (131, Pp g 0), (134, Pp g 0), (139, Ni fi)] ?_
    refine gd_st2 4 9 (by kernel_rfl) ?_ ?_
    ·
     refine st_q rfl rfl rfl (rd_loadK 0 (by kernel_rfl) hH rfl rfl rfl) ?_
     refine ⟨hS9, ?_⟩
     refine gdk [(0, Pp g 0), (9, Pp b1 0), (131, Pp g 0), (135, Pp db 0), (139, Ni fi)] ?_
     refine gds 9 (st_call rfl rfl rfl (by kernel_rfl) rfl (Name_ct fi _ (by omega) (hT9.now hH)) ?_)
     rintro _ w58 ⟨rfl, hF59⟩
     replace hH := hH.call hF59; clear hF59
     replace hS9 := hH.sublist (slc (slk (slk (slk sln))))
     refine ⟨hS9, ?_⟩
     obtain ⟨R60, hr61⟩ : ∃ R, doD R40.1 1 (nameF fi) [] 0 = R := ⟨_, rfl⟩
     replace hH : Hp w w58 _ _ ([_] ++ [_, _, _, _]) := hH.fr5
     refine gds 10 (st_call rfl rfl rfl (by kernel_rfl) rfl (by have h9 := Sync_ct db mb ab R40.1 pe42 (nameF fi) (M + (saveB l.c T V ((qs.map (·.1)).map EA.en)).length) _ hH.mine hR43 hAR40 hGR40 (by omega) (by have := nameF_short fi (by omega); omega); rw [hr61] at h9; exact h9) ?_)
     rintro _ w64 ⟨pe62, rfl, hR63, hF65⟩
     replace hH := hH.turns hF65; clear hF65
     replace hH : Hp w w64 _ _ [_, _, _, _, _] := hH
     have hAR60 : ArOk R60.1.ar := by rw [← hr61]; exact arOk_do hAR40 _ _ _ _
     replace hS9 := hH.sublist (slc (slk (slk (slk sln))))
     refine ⟨hS9, ?_⟩
     refine gdo 2 [11,12] [(0, Pp g 0), (9, Pp b1 0), (141, errV R60.2), (143, Pp g 8)] hS9 (PQ.th PQ.body) ?_
     refine gds 13 (st_storeK (v := errV R60.2) 0 rfl rfl rfl hH rfl rfl (errW_one _ _) (by kernel_rfl) rfl (by simp) ?_)
     clear hH; intro w66 hH
     replace hS9 := hH.sublist (slc (slk (slk (slk sln))))
     refine ⟨hS9, ?_⟩
     refine gdn [(0, Pp g 0), (9, Pp b1 0)] ?_
     refine sw_next ?_
     refine sw_seq ?_
     refine sw_sr ?_
     refine glo 3 [(0, Pp g 0), (9, Pp b1 0), (146, Pp g 8)] ?_
     refine gl_q rfl rfl rfl (rd_loadK 0 (by kernel_rfl) hH rfl rfl rfl) ?_
     refine gl_q rfl rfl rfl (rd_err_eq (by kernel_rfl) rfl) ?_
     refine gl_dn rfl ?_
     refine sw_cond rfl rfl (fun hc18 => ?_) (fun hc18 => ?_)
     ·
      try simp only [beq_iff_eq] at hc18
      have hz2 := hc18
      refine sw_region ?_
      refine glo 1 [(0, Pp g 0), (9, Pp b1 0), (149, Pp g 0)] ?_
      refine gl_q rfl rfl rfl (rd_loadKA (m := 5) 1 (by kernel_rfl) hH rfl rfl (by kernel_rfl) [Ni T, Ni V, Ni cx.ix, Ni cx.ah, .slice A2 es2.length c2] rfl rfl) ?_
      refine glo 2 [(0, Pp g 0), (150, .agg #[Ni T, Ni V, Ni cx.ix, Ni cx.ah, .slice A2 es2.length c2]), (152, Pp g 1)] ?_
      refine gl_st (st_storeKA (vs := [Ni T, Ni V, Ni cx.ix, Ni cx.ah, .slice A2 es2.length c2]) 0 rfl rfl rfl hH rfl rfl (by kernel_rfl) (by kernel_rfl) rfl (by simp) [Pp db 0, Ni T, Ni V, Ni cx.ix, Ni cx.ah, .slice A2 es2.length c2, Ni fi, Ni (lo + ((saveB l.c T V ((qs.map (·.1)).map EA.en)).length)), errV R60.2] rfl ?_)
      clear hH; intro w67 hH
      refine gl_done rfl ?_
      refine sw_next ?_
      refine sw_sr ?_
      refine glo 3 [(155, Pp g 8)] ?_
      refine gl_q rfl rfl rfl (rd_loadK 0 (by kernel_rfl) hH rfl rfl rfl) ?_
      refine glo 1 [(8, errV R60.2)] ?_
      refine gl_dn rfl ?_
      refine sw_ret ?_
      refine ret1 rfl rfl  ?_
      replace hH := hH.fr5.fr4.fr3
      replace hH : Hp w w67 _ _ [_, _, _] := (hH.sublist (slk (slk (slk sln))))
      rw [hz2] at hH ⊢
      exact save_fin (hsv.trans (saveW_3 hr41 hz1 hr61 hz2)) rfl hR63 ⟨hL2.fst, hL2.row, hL2.ok⟩ hH.turned
     try simp only [beq_eq_false_iff_ne, ne_eq] at hc18
     have hz2 := hc18
     refine sw_skip ?_
     refine sw_next ?_
     refine sw_sr ?_
     refine glo 3 [(155, Pp g 8)] ?_
     refine gl_q rfl rfl rfl (rd_loadK 0 (by kernel_rfl) hH rfl rfl rfl) ?_
     refine glo 1 [(8, errV R60.2)] ?_
     refine gl_dn rfl ?_
     refine sw_ret ?_
     refine ret1 rfl rfl  ?_
     replace hH := hH.fr5.fr4.fr3
     replace hH : Hp w w66 _ _ [_, _, _] := (hH.sublist (slk (slk (slk sln))))
     exact save_fin (hsv.trans (saveW_2 hr41 hz1 hr61 hz2)) rfl hR63 (hL.mono hle) hH.turned
    ·
     refine st_call rfl rfl rfl (by kernel_rfl) rfl (Name_ct fi _ (by omega) (hT9.now hH)) ?_
     rintro _ w68 ⟨rfl, hF69⟩
     replace hH := hH.call hF69; clear hF69
     replace hS9 := hH.sublist (slc (slk (slk (slk sln))))
     refine ⟨hS9, ?_⟩
     refine gdk [(0, Pp g 0), (9, Pp b1 0), (131, Pp g 0), (134, Pp g 0), (140, .string (bs (nameF fi)))] ?_
     refine gds 4 (st_q rfl rfl rfl (rd_loadK 0 (by kernel_rfl) hH rfl rfl rfl) ?_)
     refine ⟨hS9, ?_⟩
     obtain ⟨R70, hr71⟩ : ∃ R, doD R40.1 1 (nameF fi) [] 0 = R := ⟨_, rfl⟩
     replace hH : Hp w w68 _ _ ([_] ++ [_, _, _, _]) := hH.fr5
     refine gds 10 (st_call rfl rfl rfl (by kernel_rfl) rfl (by have h9 := Sync_ct db mb ab R40.1 pe42 (nameF fi) (M + (saveB l.c T V ((qs.map (·.1)).map EA.en)).length) _ hH.mine hR43 hAR40 hGR40 (by omega) (by have := nameF_short fi (by omega); omega); rw [hr71] at h9; exact h9) ?_)
     rintro _ w74 ⟨pe72, rfl, hR73, hF75⟩
     replace hH := hH.turns hF75; clear hF75
     replace hH : Hp w w74 _ _ [_, _, _, _, _] := hH
     have hAR70 : ArOk R70.1.ar := by rw [← hr71]; exact arOk_do hAR40 _ _ _ _
     replace hS9 := hH.sublist (slc (slk (slk (slk sln))))
     refine ⟨hS9, ?_⟩
     refine gdo 2 [11,12] [(0, Pp g 0), (9, Pp b1 0), (141, errV R70.2), (143, Pp g 8)] hS9 (PQ.th PQ.body) ?_
     refine gds 13 (st_storeK (v := errV R70.2) 0 rfl rfl rfl hH rfl rfl (errW_one _ _) (by kernel_rfl) rfl (by simp) ?_)
     clear hH; intro w76 hH
     replace hS9 := hH.sublist (slc (slk (slk (slk sln))))
     refine ⟨hS9, ?_⟩
     refine gdn [(0, Pp g 0), (9, Pp b1 0)] ?_
     refine sw_next ?_
     refine sw_seq ?_
     refine sw_sr ?_
     refine glo 3 [(0, Pp g 0), (9, Pp b1 0), (146, Pp g 8)] ?_
     refine gl_q rfl rfl rfl (rd_loadK 0 (by kernel_rfl) hH rfl rfl rfl) ?_
     refine gl_q rfl rfl rfl (rd_err_eq (by kernel_rfl) rfl) ?_
     refine gl_dn rfl ?_
     refine sw_cond rfl rfl (fun hc19 => ?_) (fun hc19 => ?_)
     ·
      try simp only [beq_iff_eq] at hc19
      have hz2 := hc19
      refine sw_region ?_
      refine glo 1 [(0, Pp g 0), (9, Pp b1 0), (149, Pp g 0)] ?_
      refine gl_q rfl rfl rfl (rd_loadKA (m := 5) 1 (by kernel_rfl) hH rfl rfl (by kernel_rfl) [Ni T, Ni V, Ni cx.ix, Ni cx.ah, .slice A2 es2.length c2] rfl rfl) ?_
      refine glo 2 [(0, Pp g 0), (150, .agg #[Ni T, Ni V, Ni cx.ix, Ni cx.ah, .slice A2 es2.length c2]), (152, Pp g 1)] ?_
      refine gl_st (st_storeKA (vs := [Ni T, Ni V, Ni cx.ix, Ni cx.ah, .slice A2 es2.length c2]) 0 rfl rfl rfl hH rfl rfl (by kernel_rfl) (by kernel_rfl) rfl (by simp) [Pp db 0, Ni T, Ni V, Ni cx.ix, Ni cx.ah, .slice A2 es2.length c2, Ni fi, Ni (lo + ((saveB l.c T V ((qs.map (·.1)).map EA.en)).length)), errV R70.2] rfl ?_)
      clear hH; intro w77 hH
      refine gl_done rfl ?_
      refine sw_next ?_
      refine sw_sr ?_
      refine glo 3 [(155, Pp g 8)] ?_
      refine gl_q rfl rfl rfl (rd_loadK 0 (by kernel_rfl) hH rfl rfl rfl) ?_
      refine glo 1 [(8, errV R70.2)] ?_
      refine gl_dn rfl ?_
      refine sw_ret ?_
      refine ret1 rfl rfl  ?_
      replace hH := hH.fr5.fr4.fr3
      replace hH : Hp w w77 _ _ [_, _, _] := (hH.sublist (slk (slk (slk sln))))
      rw [hz2] at hH ⊢
      exact save_fin (hsv.trans (saveW_3 hr41 hz1 hr71 hz2)) rfl hR73 ⟨hL2.fst, hL2.row, hL2.ok⟩ hH.turned
     try simp only [beq_eq_false_iff_ne, ne_eq] at hc19
     have hz2 := hc19
     refine sw_skip ?_
     refine sw_next ?_
     refine sw_sr ?_
     refine glo 3 [(155, Pp g 8)] ?_
     refine gl_q rfl rfl rfl (rd_loadK 0 (by kernel_rfl) hH rfl rfl rfl) ?_
     refine glo 1 [(8, errV R70.2)] ?_
     refine gl_dn rfl ?_
     refine sw_ret ?_
     refine ret1 rfl rfl  ?_
     replace hH := hH.fr5.fr4.fr3
     replace hH : Hp w w76 _ _ [_, _, _] := (hH.sublist (slk (slk (slk sln))))
     exact save_fin (hsv.trans (saveW_2 hr41 hz1 hr71 hz2)) rfl hR73 (hL.mono hle) hH.turned
  try simp only [beq_eq_false_iff_ne, ne_eq] at hc16
  have hz1 := hc16
  refine sw_skip ?_
  refine sw_next ?_
  refine sw_seq ?_
  refine sw_sr ?_
  refine glo 3 [(0, Pp g 0), (9, Pp b1 0), (146, Pp g 8)] ?_
  refine gl_q rfl rfl rfl (rd_loadK 0 (by kernel_rfl) hH rfl rfl rfl) ?_
  refine gl_q rfl rfl rfl (rd_err_eq (by kernel_rfl) rfl) ?_
  refine gl_dn rfl ?_
  refine sw_cond rfl rfl (fun hc20 => ?_) (fun hc20 => ?_)
  ·
   try simp only [beq_iff_eq] at hc20
   exact absurd hc20 hz1
  try simp only [beq_eq_false_iff_ne, ne_eq] at hc20
  refine sw_skip ?_
  refine sw_next ?_
  refine sw_sr ?_
  refine glo 3 [(155, Pp g 8)] ?_
  refine gl_q rfl rfl rfl (rd_loadK 0 (by kernel_rfl) hH rfl rfl rfl) ?_
  refine glo 1 [(8, errV R40.2)] ?_
  refine gl_dn rfl ?_
  refine sw_ret ?_
  refine ret1 rfl rfl  ?_
  replace hH := hH.fr5.fr4.fr3
  replace hH : Hp w w46 _ _ [_, _, _] := (hH.sublist (slk (slk (slk sln))))
  exact save_fin (hsv.trans (saveW_1 hr41 hz1)) rfl hR43 (hL.mono hle) hH.turned
 ·
  refine st_q rfl rfl rfl (rd_loadK 0 (by kernel_rfl) hH rfl rfl rfl) ?_
  refine ⟨hS9, ?_⟩
  refine gdk [(0, Pp g 0), (9, Pp b1 0), (112, Pp g 0), (115, Pp g 0), (120, Ni fi), (122, .slice A29 ((saveB l.c T V ((qs.map (·.1)).map EA.en)).length) c30)] ?_
  refine gd_st2 4 9 (by kernel_rfl) ?_ ?_
  ·
   refine st_q rfl rfl rfl (rd_loadK 0 (by kernel_rfl) hH rfl rfl rfl) ?_
   refine ⟨hS9, ?_⟩
   refine gdk [(0, Pp g 0), (9, Pp b1 0), (112, Pp g 0), (116, Pp db 0), (120, Ni fi), (122, .slice A29 ((saveB l.c T V ((qs.map (·.1)).map EA.en)).length) c30)] ?_
   refine gds 9 (st_call rfl rfl rfl (by kernel_rfl) rfl (Name_ct fi _ (by omega) (hT9.now hH)) ?_)
   rintro _ w78 ⟨rfl, hF79⟩
   replace hH := hH.call hF79; clear hF79
   replace hS9 := hH.sublist (slc (slk (slk (slc (slk sln)))))
   refine ⟨hS9, ?_⟩
   obtain ⟨R80, hr81⟩ : ∃ R, doD D 0 (nameF fi) (saveB l.c T V ((qs.map (·.1)).map EA.en)) 0 = R := ⟨_, rfl⟩
   replace hH : Hp w w78 _ _ ([_] ++ [_, _, _, _]) := hH.fr4
   refine gds 11 (st_call rfl rfl rfl (by kernel_rfl) rfl (by have h9 := Append_ct db mb ab D pe (nameF fi) _ (saveB l.c T V ((qs.map (·.1)).map EA.en)) M _ hH.mine hR hA hG (by omega) (by have := nameF_short fi (by omega); omega) (zoff_row (mine := [.grp (dskO db mb ab D pe)]) hH 3 rfl) (by omega) (by omega); rw [hr81] at h9; exact h9) ?_)
   rintro _ w84 ⟨pe82, rfl, hR83, hF85⟩
   replace hH := hH.turns hF85; clear hF85
   replace hH : Hp w w84 _ _ [_, _, _, _, _] := hH
   have hAR80 : ArOk R80.1.ar := by rw [← hr81]; exact arOk_do hA _ _ _ _
   have hGR80 : Good R80.1.fs (M + (saveB l.c T V ((qs.map (·.1)).map EA.en)).length) := by rw [← hr81]; exact good_doD hG _ _ _ _
   replace hS9 := hH.sublist (slc (slk (slk (slk sln))))
   refine ⟨hS9, ?_⟩
   refine gdo 2 [12,13] [(0, Pp g 0), (9, Pp b1 0), (123, errV R80.2), (125, Pp g 8)] hS9 (PQ.th (PQ.th PQ.body)) ?_
   refine gds 14 (st_storeK (v := errV R80.2) 0 rfl rfl rfl hH rfl rfl (errW_one _ _) (by kernel_rfl) rfl (by simp) ?_)
   clear hH; intro w86 hH
   replace hS9 := hH.sublist (slc (slk (slk (slk sln))))
   refine ⟨hS9, ?_⟩
   refine gdn [(0, Pp g 0), (9, Pp b1 0)] ?_
   refine sw_next ?_
   refine sw_sr ?_
   refine glo 3 [(0, Pp g 0), (9, Pp b1 0), (128, Pp g 8)] ?_
   refine gl_q rfl rfl rfl (rd_loadK 0 (by kernel_rfl) hH rfl rfl rfl) ?_
   refine gl_q rfl rfl rfl (rd_err_eq (by kernel_rfl) rfl) ?_
   refine gl_dn rfl ?_
   refine sw_cond rfl rfl (fun hc21 => ?_) (fun hc21 => ?_)
   ·
    try simp only [beq_iff_eq] at hc21
    have hz1 := hc21
    refine sw_draw (by kernel_rfl) (fun w_ => Hp w w_ (off w (blksOf [lgO g db l.c (.slice Ae es.length ce) ((l.file : Nat) : Int) ((l.long : Nat) : Int) (errV l.bad), plO pl, .grp (dskO db mb ab D pe)])) (blksOf [lgO g db l.c (.slice Ae es.length ce) ((l.file : Nat) : Int) ((l.long : Nat) : Int) (errV l.bad), plO pl, .grp (dskO db mb ab D pe)]) [.blk b1 94 [Ni T, Ni V, Ni cx.ix, Ni cx.ah, .slice A2 es2.length c2], plO p2, .row (.slice A29 ((saveB l.c T V ((qs.map (·.1)).map EA.en)).length) c30) 5 1 ((saveB l.c T V ((qs.map (·.1)).map EA.en)).length) (bv (saveB l.c T V ((qs.map (·.1)).map EA.en)))]) ?_
    replace hH := hH.drew
    generalize { w86 with drawn := w86.drawn + 1 } = w87 at hH ⊢
    have hS9 := hH.sublist (slc (slk (slk (slk sln))))
    refine gdo 7 [0,1,2,3,5,6,7] [(0, Pp g 0), (9, Pp b1 0), (131, Pp g 0), (134, Pp g 0), (138, Pp g 6)] hS9 (PQ.th PQ.body) ?_
    refine gd_st2 4 8 (by kernel_rfl) ?_ ?_
    ·
     refine st_q rfl rfl rfl (rd_loadK 0 (by kernel_rfl) hH rfl rfl rfl) ?_
     refine ⟨hS9, ?_⟩
     refine gdk [(0, Pp g 0), (9, Pp b1 0), (131, Pp g 0), (135, Pp db 0), (138, Pp g 6)] ?_
     refine gds 8 (st_q rfl rfl rfl (rd_loadK 0 (by kernel_rfl) hH rfl rfl rfl) ?_)
     refine ⟨hS9, ?_⟩
     refine gds 9 (st_call rfl rfl rfl (by kernel_rfl) rfl (Name_ct fi _ (by omega) (hT9.now hH)) ?_)
     rintro _ w88 ⟨rfl, hF89⟩
     replace hH := hH.call hF89; clear hF89
     replace hS9 := hH.sublist (slc (slk (slk (slk sln))))
     refine ⟨hS9, ?_⟩
     obtain ⟨R90, hr91⟩ : ∃ R, doD R80.1 1 (nameF fi) [] 0 = R := ⟨_, rfl⟩
     replace hH : Hp w w88 _ _ ([_] ++ [_, _, _, _]) := hH.fr5
     refine gds 10 (st_call rfl rfl rfl (by kernel_rfl) rfl (by have h9 := Sync_ct db mb ab R80.1 pe82 (nameF fi) (M + (saveB l.c T V ((qs.map (·.1)).map EA.en)).length) _ hH.mine hR83 hAR80 hGR80 (by omega) (by have := nameF_short fi (by omega); omega); rw [hr91] at h9; exact h9) ?_)
     rintro _ w94 ⟨pe92, rfl, hR93, hF95⟩
     replace hH := hH.turns hF95; clear hF95
     replace hH : Hp w w94 _ _ [_, _, _, _, _] := hH
     have hAR90 : ArOk R90.1.ar := by rw [← hr91]; exact arOk_do hAR80 _ _ _ _
     replace hS9 := hH.sublist (slc (slk (slk (slk sln))))
     refine ⟨hS9, ?_⟩
     refine gdk [(0, Pp g 0), (9, Pp b1 0), (131, Pp g 0), (141, errV R90.2)] ?_
     refine gdo 2 [11,12] [(0, Pp g 0), (9, Pp b1 0), (141, errV R90.2), (143, Pp g 8)] hS9 (PQ.th PQ.body) ?_
     refine gds 13 (st_storeK (v := errV R90.2) 0 rfl rfl rfl hH rfl rfl (errW_one _ _) (by kernel_rfl) rfl (by simp) ?_)
     clear hH; intro w96 hH
     replace hS9 := hH.sublist (slc (slk (slk (slk sln))))
     refine ⟨hS9, ?_⟩
     refine gdn [(0, Pp g 0), (9, Pp b1 0)] ?_
     refine sw_next ?_
     refine sw_seq ?_
     refine sw_sr ?_
     refine glo 3 [(0, Pp g 0), (9, Pp b1 0), (146, Pp g 8)] ?_
     refine gl_q rfl rfl rfl (rd_loadK 0 (by kernel_rfl) hH rfl rfl rfl) ?_
     refine gl_q rfl rfl rfl (rd_err_eq (by kernel_rfl) rfl) ?_
     refine gl_dn rfl ?_
     refine sw_cond rfl rfl (fun hc22 => ?_) (fun hc22 => ?_)
     ·
      try simp only [beq_iff_eq] at hc22
      have hz2 := hc22
      refine sw_region ?_
      refine glo 1 [(0, Pp g 0), (9, Pp b1 0), (149, Pp g 0)] ?_
      refine gl_q rfl rfl rfl (rd_loadKA (m := 5) 1 (by kernel_rfl) hH rfl rfl (by kernel_rfl) [Ni T, Ni V, Ni cx.ix, Ni cx.ah, .slice A2 es2.length c2] rfl rfl) ?_
      refine glo 2 [(0, Pp g 0), (150, .agg #[Ni T, Ni V, Ni cx.ix, Ni cx.ah, .slice A2 es2.length c2]), (152, Pp g 1)] ?_
      refine gl_st (st_storeKA (vs := [Ni T, Ni V, Ni cx.ix, Ni cx.ah, .slice A2 es2.length c2]) 0 rfl rfl rfl hH rfl rfl (by kernel_rfl) (by kernel_rfl) rfl (by simp) [Pp db 0, Ni T, Ni V, Ni cx.ix, Ni cx.ah, .slice A2 es2.length c2, Ni fi, Ni (lo + ((saveB l.c T V ((qs.map (·.1)).map EA.en)).length)), errV R90.2] rfl ?_)
      clear hH; intro w97 hH
      refine gl_done rfl ?_
      refine sw_next ?_
      refine sw_sr ?_
      refine glo 3 [(155, Pp g 8)] ?_
      refine gl_q rfl rfl rfl (rd_loadK 0 (by kernel_rfl) hH rfl rfl rfl) ?_
      refine glo 1 [(8, errV R90.2)] ?_
      refine gl_dn rfl ?_
      refine sw_ret ?_
      refine ret1 rfl rfl  ?_
      replace hH := hH.fr5.fr4.fr3
      replace hH : Hp w w97 _ _ [_, _, _] := (hH.sublist (slk (slk (slk sln))))
      rw [hz2] at hH ⊢
      exact save_fin (hsv.trans (saveW_3 hr81 hz1 hr91 hz2)) rfl hR93 ⟨hL2.fst, hL2.row, hL2.ok⟩ hH.turned
     try simp only [beq_eq_false_iff_ne, ne_eq] at hc22
     have hz2 := hc22
     refine sw_skip ?_
     refine sw_next ?_
     refine sw_sr ?_
     refine glo 3 [(155, Pp g 8)] ?_
     refine gl_q rfl rfl rfl (rd_loadK 0 (by kernel_rfl) hH rfl rfl rfl) ?_
     refine glo 1 [(8, errV R90.2)] ?_
     refine gl_dn rfl ?_
     refine sw_ret ?_
     refine ret1 rfl rfl  ?_
     replace hH := hH.fr5.fr4.fr3
     replace hH : Hp w w96 _ _ [_, _, _] := (hH.sublist (slk (slk (slk sln))))
     exact save_fin (hsv.trans (saveW_2 hr81 hz1 hr91 hz2)) rfl hR93 (hL.mono hle) hH.turned
    ·
     refine st_q rfl rfl rfl (rd_loadK 0 (by kernel_rfl) hH rfl rfl rfl) ?_
     refine ⟨hS9, ?_⟩
     refine gdk [(0, Pp g 0), (9, Pp b1 0), (131, Pp g 0), (134, Pp g 0), (139, Ni fi)] ?_
     refine gd_st2 4 9 (by kernel_rfl) ?_ ?_
     ·
      refine st_q rfl rfl rfl (rd_loadK 0 (by kernel_rfl) hH rfl rfl rfl) ?_
      refine ⟨hS9, ?_⟩
      refine gdk [(0, Pp g 0), (9, Pp b1 0), (131, Pp g 0), (135, Pp db 0), (139, Ni fi)] ?_
      refine gds 9 (st_call rfl rfl rfl (by kernel_rfl) rfl (Name_ct fi _ (by omega) (hT9.now hH)) ?_)
      rintro _ w98 ⟨rfl, hF99⟩
      replace hH := hH.call hF99; clear hF99
      replace hS9 := hH.sublist (slc (slk (slk (slk sln))))
      refine ⟨hS9, ?_⟩
      obtain ⟨R100, hr101⟩ : ∃ R, doD R80.1 1 (nameF fi) [] 0 = R := ⟨_, rfl⟩
      replace hH : Hp w w98 _ _ ([_] ++ [_, _, _, _]) := hH.fr5
      refine gds 10 (st_call rfl rfl rfl (by kernel_rfl) rfl (by have h9 := Sync_ct db mb ab R80.1 pe82 (nameF fi) (M + (saveB l.c T V ((qs.map (·.1)).map EA.en)).length) _ hH.mine hR83 hAR80 hGR80 (by omega) (by have := nameF_short fi (by omega); omega); rw [hr101] at h9; exact h9) ?_)
      rintro _ w104 ⟨pe102, rfl, hR103, hF105⟩
      replace hH := hH.turns hF105; clear hF105
      replace hH : Hp w w104 _ _ [_, _, _, _, _] := hH
      have hAR100 : ArOk R100.1.ar := by rw [← hr101]; exact arOk_do hAR80 _ _ _ _
      replace hS9 := hH.sublist (slc (slk (slk (slk sln))))
      refine ⟨hS9, ?_⟩
      refine gdo 2 [11,12] [(0, Pp g 0), (9, Pp b1 0), (141, errV R100.2), (143, Pp g 8)] hS9 (PQ.th PQ.body) ?_
      refine gds 13 (st_storeK (v := errV R100.2) 0 rfl rfl rfl hH rfl rfl (errW_one _ _) (by kernel_rfl) rfl (by simp) ?_)
      clear hH; intro w106 hH
      replace hS9 := hH.sublist (slc (slk (slk (slk sln))))
      refine ⟨hS9, ?_⟩
      refine gdn [(0, Pp g 0), (9, Pp b1 0)] ?_
      refine sw_next ?_
      refine sw_seq ?_
      refine sw_sr ?_
      refine glo 3 [(0, Pp g 0), (9, Pp b1 0), (146, Pp g 8)] ?_
      refine gl_q rfl rfl rfl (rd_loadK 0 (by kernel_rfl) hH rfl rfl rfl) ?_
      refine gl_q rfl rfl rfl (rd_err_eq (by kernel_rfl) rfl) ?_
      refine gl_dn rfl ?_
      refine sw_cond rfl rfl (fun hc23 => ?_) (fun hc23 => ?_)
      ·
       try simp only [beq_iff_eq] at hc23
       have hz2 := hc23
       refine sw_region ?_
       refine glo 1 [(0, Pp g 0), (9, Pp b1 0), (149, Pp g 0)] ?_
       refine gl_q rfl rfl rfl (rd_loadKA (m := 5) 1 (by kernel_rfl) hH rfl rfl (by kernel_rfl) [Ni T, Ni V, Ni cx.ix, Ni cx.ah, .slice A2 es2.length c2] rfl rfl) ?_
       refine glo 2 [(0, Pp g 0), (150, .agg #[Ni T, Ni V, Ni cx.ix, Ni cx.ah, .slice A2 es2.length c2]), (152, Pp g 1)] ?_
       refine gl_st (st_storeKA (vs := [Ni T, Ni V, Ni cx.ix, Ni cx.ah, .slice A2 es2.length c2]) 0 rfl rfl rfl hH rfl rfl (by kernel_rfl) (by kernel_rfl) rfl (by simp) [Pp db 0, Ni T, Ni V, Ni cx.ix, Ni cx.ah, .slice A2 es2.length c2, Ni fi, Ni (lo + ((saveB l.c T V ((qs.map (·.1)).map EA.en)).length)), errV R100.2] rfl ?_)
       clear hH; intro w107 hH
       refine gl_done rfl ?_
       refine sw_next ?_
       refine sw_sr ?_
       refine glo 3 [(155, Pp g 8)] ?_
       refine gl_q rfl rfl rfl (rd_loadK 0 (by kernel_rfl) hH rfl rfl rfl) ?_
       refine glo 1 [(8, errV R100.2)] ?_
       refine gl_dn rfl ?_
       refine sw_ret ?_
       refine ret1 rfl rfl  ?_
       replace hH := hH.fr5.fr4.fr3
       replace hH : Hp w w107 _ _ [_, _, _] := (hH.sublist (slk (slk (slk sln))))
       rw [hz2] at hH ⊢
       exact save_fin (hsv.trans (saveW_3 hr81 hz1 hr101 hz2)) rfl hR103 ⟨hL2.fst, hL2.row, hL2.ok⟩ hH.turned
      try simp only [beq_eq_false_iff_ne, ne_eq] at hc23
      have hz2 := hc23
      refine sw_skip ?_
      refine sw_next ?_
      refine sw_sr ?_
      refine glo 3 [(155, Pp g 8)] ?_
      refine gl_q rfl rfl rfl (rd_loadK 0 (by kernel_rfl) hH rfl rfl rfl) ?_
      refine glo 1 [(8, errV R100.2)] ?_
      refine gl_dn rfl ?_
      refine sw_ret ?_
      refine ret1 rfl rfl  ?_
      replace hH := hH.fr5.fr4.fr3
      replace hH : Hp w w106 _ _ [_, _, _] := (hH.sublist (slk (slk (slk sln))))
      exact save_fin (hsv.trans (saveW_2 hr81 hz1 hr101 hz2)) rfl hR103 (hL.mono hle) hH.turned
     ·
      refine st_call rfl rfl rfl (by kernel_rfl) rfl (Name_ct fi _ (by omega) (hT9.now hH)) ?_
      rintro _ w108 ⟨rfl, hF109⟩
      replace hH := hH.call hF109; clear hF109
      replace hS9 := hH.sublist (slc (slk (slk (slk sln))))
      refine ⟨hS9, ?_⟩
      refine gdk [(0, Pp g 0), (9, Pp b1 0), (131, Pp g 0), (134, Pp g 0), (140, .string (bs (nameF fi)))] ?_
      refine gds 4 (st_q rfl rfl rfl (rd_loadK 0 (by kernel_rfl) hH rfl rfl rfl) ?_)
      refine ⟨hS9, ?_⟩
      obtain ⟨R110, hr111⟩ : ∃ R, doD R80.1 1 (nameF fi) [] 0 = R := ⟨_, rfl⟩
      replace hH : Hp w w108 _ _ ([_] ++ [_, _, _, _]) := hH.fr5
      refine gds 10 (st_call rfl rfl rfl (by kernel_rfl) rfl (by have h9 := Sync_ct db mb ab R80.1 pe82 (nameF fi) (M + (saveB l.c T V ((qs.map (·.1)).map EA.en)).length) _ hH.mine hR83 hAR80 hGR80 (by omega) (by have := nameF_short fi (by omega); omega); rw [hr111] at h9; exact h9) ?_)
      rintro _ w114 ⟨pe112, rfl, hR113, hF115⟩
      replace hH := hH.turns hF115; clear hF115
      replace hH : Hp w w114 _ _ [_, _, _, _, _] := hH
      have hAR110 : ArOk R110.1.ar := by rw [← hr111]; exact arOk_do hAR80 _ _ _ _
      replace hS9 := hH.sublist (slc (slk (slk (slk sln))))
      refine ⟨hS9, ?_⟩
      refine gdo 2 [11,12] [(0, Pp g 0), (9, Pp b1 0), (141, errV R110.2), (143, Pp g 8)] hS9 (PQ.th PQ.body) ?_
      refine gds 13 (st_storeK (v := errV R110.2) 0 rfl rfl rfl hH rfl rfl (errW_one _ _) (by kernel_rfl) rfl (by simp) ?_)
      clear hH; intro w116 hH
      replace hS9 := hH.sublist (slc (slk (slk (slk sln))))
      refine ⟨hS9, ?_⟩
      refine gdn [(0, Pp g 0), (9, Pp b1 0)] ?_
      refine sw_next ?_
      refine sw_seq ?_
      refine sw_sr ?_
      refine glo 3 [(0, Pp g 0), (9, Pp b1 0), (146, Pp g 8)] ?_
      refine gl_q rfl rfl rfl (rd_loadK 0 (by kernel_rfl) hH rfl rfl rfl) ?_
      refine gl_q rfl rfl rfl (rd_err_eq (by kernel_rfl) rfl) ?_
      refine gl_dn rfl ?_
      refine sw_cond rfl rfl (fun hc24 => ?_) (fun hc24 => ?_)
      ·
       try simp only [beq_iff_eq] at hc24
       have hz2 := hc24
       refine sw_region ?_
       refine glo 1 [(0, Pp g 0), (9, Pp b1 0), (149, Pp g 0)] ?_
       refine gl_q rfl rfl rfl (rd_loadKA (m := 5) 1 (by kernel_rfl) hH rfl rfl (by kernel_rfl) [Ni T, Ni V, Ni cx.ix, Ni cx.ah, .slice A2 es2.length c2] rfl rfl) ?_
       refine glo 2 [(0, Pp g 0), (150, .agg #[Ni T, Ni V, Ni cx.ix, Ni cx.ah, .slice A2 es2.length c2]), (152, Pp g 1)] ?_
       refine gl_st (st_storeKA (vs := [Ni T, Ni V, Ni cx.ix, Ni cx.ah, .slice A2 es2.length c2]) 0 rfl rfl rfl hH rfl rfl (by kernel_rfl) (by kernel_rfl) rfl (by simp) [Pp db 0, Ni T, Ni V, Ni cx.ix, Ni cx.ah, .slice A2 es2.length c2, Ni fi, Ni (lo + ((saveB l.c T V ((qs.map (·.1)).map EA.en)).length)), errV R110.2] rfl ?_)
       clear hH; intro w117 hH
       refine gl_done rfl ?_
       refine sw_next ?_
       refine sw_sr ?_
       refine glo 3 [(155, Pp g 8)] ?_
       refine gl_q rfl rfl rfl (rd_loadK 0 (by kernel_rfl) hH rfl rfl rfl) ?_
       refine glo 1 [(8, errV R110.2)] ?_
       refine gl_dn rfl ?_
       refine sw_ret ?_
       refine ret1 rfl rfl  ?_
       replace hH := hH.fr5.fr4.fr3
       replace hH : Hp w w117 _ _ [_, _, _] := (hH.sublist (slk (slk (slk sln))))
       rw [hz2] at hH ⊢
       exact save_fin (hsv.trans (saveW_3 hr81 hz1 hr111 hz2)) rfl hR113 ⟨hL2.fst, hL2.row, hL2.ok⟩ hH.turned
      try simp only [beq_eq_false_iff_ne, ne_eq] at hc24
      have hz2 := hc24
      refine sw_skip ?_
      refine sw_next ?_
      refine sw_sr ?_
      refine glo 3 [(155, Pp g 8)] ?_
      refine gl_q rfl rfl rfl (rd_loadK 0 (by kernel_rfl) hH rfl rfl rfl) ?_
      refine glo 1 [(8, errV R110.2)] ?_
      refine gl_dn rfl ?_
      refine sw_ret ?_
      refine ret1 rfl rfl  ?_
      replace hH := hH.fr5.fr4.fr3
      replace hH : Hp w w116 _ _ [_, _, _] := (hH.sublist (slk (slk (slk sln))))
      exact save_fin (hsv.trans (saveW_2 hr81 hz1 hr111 hz2)) rfl hR113 (hL.mono hle) hH.turned
   try simp only [beq_eq_false_iff_ne, ne_eq] at hc21
   have hz1 := hc21
   refine sw_skip ?_
   refine sw_next ?_
   refine sw_seq ?_
   refine sw_sr ?_
   refine glo 3 [(0, Pp g 0), (9, Pp b1 0), (146, Pp g 8)] ?_
   refine gl_q rfl rfl rfl (rd_loadK 0 (by kernel_rfl) hH rfl rfl rfl) ?_
   refine gl_q rfl rfl rfl (rd_err_eq (by kernel_rfl) rfl) ?_
   refine gl_dn rfl ?_
   refine sw_cond rfl rfl (fun hc25 => ?_) (fun hc25 => ?_)
   ·
    try simp only [beq_iff_eq] at hc25
    exact absurd hc25 hz1
   try simp only [beq_eq_false_iff_ne, ne_eq] at hc25
   refine sw_skip ?_
   refine sw_next ?_
   refine sw_sr ?_
   refine glo 3 [(155, Pp g 8)] ?_
   refine gl_q rfl rfl rfl (rd_loadK 0 (by kernel_rfl) hH rfl rfl rfl) ?_
   refine glo 1 [(8, errV R80.2)] ?_
   refine gl_dn rfl ?_
   refine sw_ret ?_
   refine ret1 rfl rfl  ?_
   replace hH := hH.fr5.fr4.fr3
   replace hH : Hp w w86 _ _ [_, _, _] := (hH.sublist (slk (slk (slk sln))))
   exact save_fin (hsv.trans (saveW_1 hr81 hz1)) rfl hR83 (hL.mono hle) hH.turned
  ·
   refine st_call rfl rfl rfl (by kernel_rfl) rfl (Name_ct fi _ (by omega) (hT9.now hH)) ?_
   rintro _ w118 ⟨rfl, hF119⟩
   replace hH := hH.call hF119; clear hF119
   replace hS9 := hH.sublist (slc (slk (slk (slc (slk sln)))))
   refine ⟨hS9, ?_⟩
   refine gdk [(0, Pp g 0), (9, Pp b1 0), (112, Pp g 0), (115, Pp g 0), (121, .string (bs (nameF fi))), (122, .slice A29 ((saveB l.c T V ((qs.map (·.1)).map EA.en)).length) c30)] ?_
   refine gds 4 (st_q rfl rfl rfl (rd_loadK 0 (by kernel_rfl) hH rfl rfl rfl) ?_)
   refine ⟨hS9, ?_⟩
   obtain ⟨R120, hr121⟩ : ∃ R, doD D 0 (nameF fi) (saveB l.c T V ((qs.map (·.1)).map EA.en)) 0 = R := ⟨_, rfl⟩
   replace hH : Hp w w118 _ _ ([_] ++ [_, _, _, _]) := hH.fr4
   refine gds 11 (st_call rfl rfl rfl (by kernel_rfl) rfl (by have h9 := Append_ct db mb ab D pe (nameF fi) _ (saveB l.c T V ((qs.map (·.1)).map EA.en)) M _ hH.mine hR hA hG (by omega) (by have := nameF_short fi (by omega); omega) (zoff_row (mine := [.grp (dskO db mb ab D pe)]) hH 3 rfl) (by omega) (by omega); rw [hr121] at h9; exact h9) ?_)
   rintro _ w124 ⟨pe122, rfl, hR123, hF125⟩
   replace hH := hH.turns hF125; clear hF125
   replace hH : Hp w w124 _ _ [_, _, _, _, _] := hH
   have hAR120 : ArOk R120.1.ar := by rw [← hr121]; exact arOk_do hA _ _ _ _
   have hGR120 : Good R120.1.fs (M + (saveB l.c T V ((qs.map (·.1)).map EA.en)).length) := by rw [← hr121]; exact good_doD hG _ _ _ _
   replace hS9 := hH.sublist (slc (slk (slk (slk sln))))
   refine ⟨hS9, ?_⟩
   refine gdo 2 [12,13] [(0, Pp g 0), (9, Pp b1 0), (123, errV R120.2), (125, Pp g 8)] hS9 (PQ.th (PQ.th PQ.body)) ?_
   refine gds 14 (st_storeK (v := errV R120.2) 0 rfl rfl rfl hH rfl rfl (errW_one _ _) (by kernel_rfl) rfl (by simp) ?_)
   clear hH; intro w126 hH
   replace hS9 := hH.sublist (slc (slk (slk (slk sln))))
   refine ⟨hS9, ?_⟩
   refine gdn [(0, Pp g 0), (9, Pp b1 0)] ?_
   refine sw_next ?_
   refine sw_sr ?_
   refine glo 3 [(0, Pp g 0), (9, Pp b1 0), (128, Pp g 8)] ?_
   refine gl_q rfl rfl rfl (rd_loadK 0 (by kernel_rfl) hH rfl rfl rfl) ?_
   refine gl_q rfl rfl rfl (rd_err_eq (by kernel_rfl) rfl) ?_
   refine gl_dn rfl ?_
   refine sw_cond rfl rfl (fun hc26 => ?_) (fun hc26 => ?_)
   ·
    try simp only [beq_iff_eq] at hc26
    have hz1 := hc26
    refine sw_draw (by kernel_rfl) (fun w_ => Hp w w_ (off w (blksOf [lgO g db l.c (.slice Ae es.length ce) ((l.file : Nat) : Int) ((l.long : Nat) : Int) (errV l.bad), plO pl, .grp (dskO db mb ab D pe)])) (blksOf [lgO g db l.c (.slice Ae es.length ce) ((l.file : Nat) : Int) ((l.long : Nat) : Int) (errV l.bad), plO pl, .grp (dskO db mb ab D pe)]) [.blk b1 94 [Ni T, Ni V, Ni cx.ix, Ni cx.ah, .slice A2 es2.length c2], plO p2, .row (.slice A29 ((saveB l.c T V ((qs.map (·.1)).map EA.en)).length) c30) 5 1 ((saveB l.c T V ((qs.map (·.1)).map EA.en)).length) (bv (saveB l.c T V ((qs.map (·.1)).map EA.en)))]) ?_
    replace hH := hH.drew
    generalize { w126 with drawn := w126.drawn + 1 } = w127 at hH ⊢
    have hS9 := hH.sublist (slc (slk (slk (slk sln))))
    refine gdo 7 [0,1,2,3,5,6,7] [(0, Pp g 0), (9, Pp b1 0), (131, Pp g 0), (134, Pp g 0), (138, Pp g 6)] hS9 (PQ.th PQ.body) ?_
    refine gd_st2 4 8 (by kernel_rfl) ?_ ?_
    ·
     refine st_q rfl rfl rfl (rd_loadK 0 (by kernel_rfl) hH rfl rfl rfl) ?_
     refine ⟨hS9, ?_⟩
     refine gdk [(0, Pp g 0), (9, Pp b1 0), (131, Pp g 0), (135, Pp db 0), (138, Pp g 6)] ?_
     refine gds 8 (st_q rfl rfl rfl (rd_loadK 0 (by kernel_rfl) hH rfl rfl rfl) ?_)
     refine ⟨hS9, ?_⟩
     refine gds 9 (st_call rfl rfl rfl (by kernel_rfl) rfl (Name_ct fi _ (by omega) (hT9.now hH)) ?_)
     rintro _ w128 ⟨rfl, hF129⟩
     replace hH := hH.call hF129; clear hF129
     replace hS9 := hH.sublist (slc (slk (slk (slk sln))))
     refine ⟨hS9, ?_⟩
     obtain ⟨R130, hr131⟩ : ∃ R, doD R120.1 1 (nameF fi) [] 0 = R := ⟨_, rfl⟩
     replace hH : Hp w w128 _ _ ([_] ++ [_, _, _, _]) := hH.fr5
     refine gds 10 (st_call rfl rfl rfl (by kernel_rfl) rfl (by have h9 := Sync_ct db mb ab R120.1 pe122 (nameF fi) (M + (saveB l.c T V ((qs.map (·.1)).map EA.en)).length) _ hH.mine hR123 hAR120 hGR120 (by omega) (by have := nameF_short fi (by omega); omega); rw [hr131] at h9; exact h9) ?_)
     rintro _ w134 ⟨pe132, rfl, hR133, hF135⟩
     replace hH := hH.turns hF135; clear hF135
     replace hH : Hp w w134 _ _ [_, _, _, _, _] := hH
     have hAR130 : ArOk R130.1.ar := by rw [← hr131]; exact arOk_do hAR120 _ _ _ _
     replace hS9 := hH.sublist (slc (slk (slk (slk sln))))
     refine ⟨hS9, ?_⟩
     refine gdk [(0, Pp g 0), (9, Pp b1 0), (131, Pp g 0), (141, errV R130.2)] ?_
     refine gdo 2 [11,12] [(0, Pp g 0), (9, Pp b1 0), (141, errV R130.2), (143, Pp g 8)] hS9 (PQ.th PQ.body) ?_
     refine gds 13 (st_storeK (v := errV R130.2) 0 rfl rfl rfl hH rfl rfl (errW_one _ _) (by kernel_rfl) rfl (by simp) ?_)
     clear hH; intro w136 hH
     replace hS9 := hH.sublist (slc (slk (slk (slk sln))))
     refine ⟨hS9, ?_⟩
     refine gdn [(0, Pp g 0), (9, Pp b1 0)] ?_
     refine sw_next ?_
     refine sw_seq ?_
     refine sw_sr ?_
     refine glo 3 [(0, Pp g 0), (9, Pp b1 0), (146, Pp g 8)] ?_
     refine gl_q rfl rfl rfl (rd_loadK 0 (by kernel_rfl) hH rfl rfl rfl) ?_
     refine gl_q rfl rfl rfl (rd_err_eq (by kernel_rfl) rfl) ?_
     refine gl_dn rfl ?_
     refine sw_cond rfl rfl (fun hc27 => ?_) (fun hc27 => ?_)
     ·
      try simp only [beq_iff_eq] at hc27
      have hz2 := hc27
      refine sw_region ?_
      refine glo 1 [(0, Pp g 0), (9, Pp b1 0), (149, Pp g 0)] ?_
      refine gl_q rfl rfl rfl (rd_loadKA (m := 5) 1 (by kernel_rfl) hH rfl rfl (by kernel_rfl) [Ni T, Ni V, Ni cx.ix, Ni cx.ah, .slice A2 es2.length c2] rfl rfl) ?_
      refine glo 2 [(0, Pp g 0), (150, .agg #[Ni T, Ni V, Ni cx.ix, Ni cx.ah, .slice A2 es2.length c2]), (152, Pp g 1)] ?_
      refine gl_st (st_storeKA (vs := [Ni T, Ni V, Ni cx.ix, Ni cx.ah, .slice A2 es2.length c2]) 0 rfl rfl rfl hH rfl rfl (by kernel_rfl) (by kernel_rfl) rfl (by simp) [Pp db 0, Ni T, Ni V, Ni cx.ix, Ni cx.ah, .slice A2 es2.length c2, Ni fi, Ni (lo + ((saveB l.c T V ((qs.map (·.1)).map EA.en)).length)), errV R130.2] rfl ?_)
      clear hH; intro w137 hH
      refine gl_done rfl ?_
      refine sw_next ?_
      refine sw_sr ?_
      refine glo 3 [(155, Pp g 8)] ?_
      refine gl_q rfl rfl rfl (rd_loadK 0 (by kernel_rfl) hH rfl rfl rfl) ?_
      refine glo 1 [(8, errV R130.2)] ?_
      refine gl_dn rfl ?_
      refine sw_ret ?_
      refine ret1 rfl rfl  ?_
      replace hH := hH.fr5.fr4.fr3
      replace hH : Hp w w137 _ _ [_, _, _] := (hH.sublist (slk (slk (slk sln))))
      rw [hz2] at hH ⊢
      exact save_fin (hsv.trans (saveW_3 hr121 hz1 hr131 hz2)) rfl hR133 ⟨hL2.fst, hL2.row, hL2.ok⟩ hH.turned
     try simp only [beq_eq_false_iff_ne, ne_eq] at hc27
     have hz2 := hc27
     refine sw_skip ?_
     refine sw_next ?_
     refine sw_sr ?_
     refine glo 3 [(155, Pp g 8)] ?_
     refine gl_q rfl rfl rfl (rd_loadK 0 (by kernel_rfl) hH rfl rfl rfl) ?_
     refine glo 1 [(8, errV R130.2)] ?_
     refine gl_dn rfl ?_
     refine sw_ret ?_
     refine ret1 rfl rfl  ?_
     replace hH := hH.fr5.fr4.fr3
     replace hH : Hp w w136 _ _ [_, _, _] := (hH.sublist (slk (slk (slk sln))))
     exact save_fin (hsv.trans (saveW_2 hr121 hz1 hr131 hz2)) rfl hR133 (hL.mono hle) hH.turned
    ·
     refine st_q rfl rfl rfl (rd_loadK 0 (by kernel_rfl) hH rfl rfl rfl) ?_
     refine ⟨hS9, ?_⟩
     refine gdk [(0, Pp g 0), (9, Pp b1 0), (131, Pp g 0), (134, Pp g 0), (139, Ni fi)] ?_
     refine gd_st2 4 9 (by kernel_rfl) ?_ ?_
     ·
      refine st_q rfl rfl rfl (rd_loadK 0 (by kernel_rfl) hH rfl rfl rfl) ?_
      refine ⟨hS9, ?_⟩
      refine gdk [(0, Pp g 0), (9, Pp b1 0), (131, Pp g 0), (135, Pp db 0), (139, Ni fi)] ?_
      refine gds 9 (st_call rfl rfl rfl (by kernel_rfl) rfl (Name_ct fi _ (by omega) (hT9.now hH)) ?_)
      rintro _ w138 ⟨rfl, hF139⟩
      replace hH := hH.call hF139; clear hF139
      replace hS9 := hH.sublist (slc (slk (slk (slk sln))))
      refine ⟨hS9, ?_⟩
      obtain ⟨R140, hr141⟩ : ∃ R, doD R120.1 1 (nameF fi) [] 0 = R := ⟨_, rfl⟩
      replace hH : Hp w w138 _ _ ([_] ++ [_, _, _, _]) := hH.fr5
      refine gds 10 (st_call rfl rfl rfl (by kernel_rfl) rfl (by have h9 := Sync_ct db mb ab R120.1 pe122 (nameF fi) (M + (saveB l.c T V ((qs.map (·.1)).map EA.en)).length) _ hH.mine hR123 hAR120 hGR120 (by omega) (by have := nameF_short fi (by omega); omega); rw [hr141] at h9; exact h9) ?_)
      rintro _ w144 ⟨pe142, rfl, hR143, hF145⟩
      replace hH := hH.turns hF145; clear hF145
      replace hH : Hp w w144 _ _ [_, _, _, _, _] := hH
      have hAR140 : ArOk R140.1.ar := by rw [← hr141]; exact arOk_do hAR120 _ _ _ _
      replace hS9 := hH.sublist (slc (slk (slk (slk sln))))
      refine ⟨hS9, ?_⟩
      refine gdo 2 [11,12] [(0, Pp g 0), (9, Pp b1 0), (141, errV R140.2), (143, Pp g 8)] hS9 (PQ.th PQ.body) ?_
      refine gds 13 (st_storeK (v := errV R140.2) 0 rfl rfl rfl hH rfl rfl (errW_one _ _) (by kernel_rfl) rfl (by simp) ?_)
      clear hH; intro w146 hH
      replace hS9 := hH.sublist (slc (slk (slk (slk sln))))
      refine ⟨hS9, ?_⟩
      refine gdn [(0, Pp g 0), (9, Pp b1 0)] ?_
      refine sw_next ?_
      refine sw_seq ?_
      refine sw_sr ?_
      refine glo 3 [(0, Pp g 0), (9, Pp b1 0), (146, Pp g 8)] ?_
      refine gl_q rfl rfl rfl (rd_loadK 0 (by kernel_rfl) hH rfl rfl rfl) ?_
      refine gl_q rfl rfl rfl (rd_err_eq (by kernel_rfl) rfl) ?_
      refine gl_dn rfl ?_
      refine sw_cond rfl rfl (fun hc28 => ?_) (fun hc28 => ?_)
      ·
       try simp only [beq_iff_eq] at hc28
       have hz2 := hc28
       refine sw_region ?_
       refine glo 1 [(0, Pp g 0), (9, Pp b1 0), (149, Pp g 0)] ?_
       refine gl_q rfl rfl rfl (rd_loadKA (m := 5) 1 (by kernel_rfl) hH rfl rfl (by kernel_rfl) [Ni T, Ni V, Ni cx.ix, Ni cx.ah, .slice A2 es2.length c2] rfl rfl) ?_
       refine glo 2 [(0, Pp g 0), (150, .agg #[Ni T, Ni V, Ni cx.ix, Ni cx.ah, .slice A2 es2.length c2]), (152, Pp g 1)] ?_
       refine gl_st (st_storeKA (vs := [Ni T, Ni V, Ni cx.ix, Ni cx.ah, .slice A2 es2.length c2]) 0 rfl rfl rfl hH rfl rfl (by kernel_rfl) (by kernel_rfl) rfl (by simp) [Pp db 0, Ni T, Ni V, Ni cx.ix, Ni cx.ah, .slice A2 es2.length c2, Ni fi, Ni (lo + ((saveB l.c T V ((qs.map (·.1)).map EA.en)).length)), errV R140.2] rfl ?_)
       clear hH; intro w147 hH
       refine gl_done rfl ?_
       refine sw_next ?_
       refine sw_sr ?_
       refine glo 3 [(155, Pp g 8)] ?_
       refine gl_q rfl rfl rfl (rd_loadK 0 (by kernel_rfl) hH rfl rfl rfl) ?_
       refine glo 1 [(8, errV R140.2)] ?_
       refine gl_dn rfl ?_
       refine sw_ret ?_
       refine ret1 rfl rfl  ?_
       replace hH := hH.fr5.fr4.fr3
       replace hH : Hp w w147 _ _ [_, _, _] := (hH.sublist (slk (slk (slk sln))))
       rw [hz2] at hH ⊢
       exact save_fin (hsv.trans (saveW_3 hr121 hz1 hr141 hz2)) rfl hR143 ⟨hL2.fst, hL2.row, hL2.ok⟩ hH.turned
      try simp only [beq_eq_false_iff_ne, ne_eq] at hc28
      have hz2 := hc28
      refine sw_skip ?_
      refine sw_next ?_
      refine sw_sr ?_
      refine glo 3 [(155, Pp g 8)] ?_
      refine gl_q rfl rfl rfl (rd_loadK 0 (by kernel_rfl) hH rfl rfl rfl) ?_
      refine glo 1 [(8, errV R140.2)] ?_
      refine gl_dn rfl ?_
      refine sw_ret ?_
      refine ret1 rfl rfl  ?_
      replace hH := hH.fr5.fr4.fr3
      replace hH : Hp w w146 _ _ [_, _, _] := (hH.sublist (slk (slk (slk sln))))
      exact save_fin (hsv.trans (saveW_2 hr121 hz1 hr141 hz2)) rfl hR143 (hL.mono hle) hH.turned
     ·
      refine st_call rfl rfl rfl (by kernel_rfl) rfl (Name_ct fi _ (by omega) (hT9.now hH)) ?_
      rintro _ w148 ⟨rfl, hF149⟩
      replace hH := hH.call hF149; clear hF149
      replace hS9 := hH.sublist (slc (slk (slk (slk sln))))
      refine ⟨hS9, ?_⟩
      refine gdk [(0, Pp g 0), (9, Pp b1 0), (131, Pp g 0), (134, Pp g 0), (140, .string (bs (nameF fi)))] ?_
      refine gds 4 (st_q rfl rfl rfl (rd_loadK 0 (by kernel_rfl) hH rfl rfl rfl) ?_)
      refine ⟨hS9, ?_⟩
      obtain ⟨R150, hr151⟩ : ∃ R, doD R120.1 1 (nameF fi) [] 0 = R := ⟨_, rfl⟩
      replace hH : Hp w w148 _ _ ([_] ++ [_, _, _, _]) := hH.fr5
      refine gds 10 (st_call rfl rfl rfl (by kernel_rfl) rfl (by have h9 := Sync_ct db mb ab R120.1 pe122 (nameF fi) (M + (saveB l.c T V ((qs.map (·.1)).map EA.en)).length) _ hH.mine hR123 hAR120 hGR120 (by omega) (by have := nameF_short fi (by omega); omega); rw [hr151] at h9; exact h9) ?_)
      rintro _ w154 ⟨pe152, rfl, hR153, hF155⟩
      replace hH := hH.turns hF155; clear hF155
      replace hH : Hp w w154 _ _ [_, _, _, _, _] := hH
      have hAR150 : ArOk R150.1.ar := by rw [← hr151]; exact arOk_do hAR120 _ _ _ _
      replace hS9 := hH.sublist (slc (slk (slk (slk sln))))
      refine ⟨hS9, ?_⟩
      refine gdo 2 [11,12] [(0, Pp g 0), (9, Pp b1 0), (141, errV R150.2), (143, Pp g 8)] hS9 (PQ.th PQ.body) ?_
      refine gds 13 (st_storeK (v := errV R150.2) 0 rfl rfl rfl hH rfl rfl (errW_one _ _) (by kernel_rfl) rfl (by simp) ?_)
      clear hH; intro w156 hH
      replace hS9 := hH.sublist (slc (slk (slk (slk sln))))
      refine ⟨hS9, ?_⟩
      refine gdn [(0, Pp g 0), (9, Pp b1 0)] ?_
      refine sw_next ?_
      refine sw_seq ?_
      refine sw_sr ?_
      refine glo 3 [(0, Pp g 0), (9, Pp b1 0), (146, Pp g 8)] ?_
      refine gl_q rfl rfl rfl (rd_loadK 0 (by kernel_rfl) hH rfl rfl rfl) ?_
      refine gl_q rfl rfl rfl (rd_err_eq (by kernel_rfl) rfl) ?_
      refine gl_dn rfl ?_
      refine sw_cond rfl rfl (fun hc29 => ?_) (fun hc29 => ?_)
      ·
       try simp only [beq_iff_eq] at hc29
       have hz2 := hc29
       refine sw_region ?_
       refine glo 1 [(0, Pp g 0), (9, Pp b1 0), (149, Pp g 0)] ?_
       refine gl_q rfl rfl rfl (rd_loadKA (m := 5) 1 (by kernel_rfl) hH rfl rfl (by kernel_rfl) [Ni T, Ni V, Ni cx.ix, Ni cx.ah, .slice A2 es2.length c2] rfl rfl) ?_
       refine glo 2 [(0, Pp g 0), (150, .agg #[Ni T, Ni V, Ni cx.ix, Ni cx.ah, .slice A2 es2.length c2]), (152, Pp g 1)] ?_
       refine gl_st (st_storeKA (vs := [Ni T, Ni V, Ni cx.ix, Ni cx.ah, .slice A2 es2.length c2]) 0 rfl rfl rfl hH rfl rfl (by kernel_rfl) (by kernel_rfl) rfl (by simp) [Pp db 0, Ni T, Ni V, Ni cx.ix, Ni cx.ah, .slice A2 es2.length c2, Ni fi, Ni (lo + ((saveB l.c T V ((qs.map (·.1)).map EA.en)).length)), errV R150.2] rfl ?_)
       clear hH; intro w157 hH
       refine gl_done rfl ?_
       refine sw_next ?_
       refine sw_sr ?_
       refine glo 3 [(155, Pp g 8)] ?_
       refine gl_q rfl rfl rfl (rd_loadK 0 (by kernel_rfl) hH rfl rfl rfl) ?_
       refine glo 1 [(8, errV R150.2)] ?_
       refine gl_dn rfl ?_
       refine sw_ret ?_
       refine ret1 rfl rfl  ?_
       replace hH := hH.fr5.fr4.fr3
       replace hH : Hp w w157 _ _ [_, _, _] := (hH.sublist (slk (slk (slk sln))))
       rw [hz2] at hH ⊢
       exact save_fin (hsv.trans (saveW_3 hr121 hz1 hr151 hz2)) rfl hR153 ⟨hL2.fst, hL2.row, hL2.ok⟩ hH.turned
      try simp only [beq_eq_false_iff_ne, ne_eq] at hc29
      have hz2 := hc29
      refine sw_skip ?_
      refine sw_next ?_
      refine sw_sr ?_
      refine glo 3 [(155, Pp g 8)] ?_
      refine gl_q rfl rfl rfl (rd_loadK 0 (by kernel_rfl) hH rfl rfl rfl) ?_
      refine glo 1 [(8, errV R150.2)] ?_
      refine gl_dn rfl ?_
      refine sw_ret ?_
      refine ret1 rfl rfl  ?_
      replace hH := hH.fr5.fr4.fr3
      replace hH : Hp w w156 _ _ [_, _, _] := (hH.sublist (slk (slk (slk sln))))
      exact save_fin (hsv.trans (saveW_2 hr121 hz1 hr151 hz2)) rfl hR153 (hL.mono hle) hH.turned
   try simp only [beq_eq_false_iff_ne, ne_eq] at hc26
   have hz1 := hc26
   refine sw_skip ?_
   refine sw_next ?_
   refine sw_seq ?_
   refine sw_sr ?_
   refine glo 3 [(0, Pp g 0), (9, Pp b1 0), (146, Pp g 8)] ?_
   refine gl_q rfl rfl rfl (rd_loadK 0 (by kernel_rfl) hH rfl rfl rfl) ?_
   refine gl_q rfl rfl rfl (rd_err_eq (by kernel_rfl) rfl) ?_
   refine gl_dn rfl ?_
   refine sw_cond rfl rfl (fun hc30 => ?_) (fun hc30 => ?_)
   ·
    try simp only [beq_iff_eq] at hc30
    exact absurd hc30 hz1
   try simp only [beq_eq_false_iff_ne, ne_eq] at hc30
   refine sw_skip ?_
   refine sw_next ?_
   refine sw_sr ?_
   refine glo 3 [(155, Pp g 8)] ?_
   refine gl_q rfl rfl rfl (rd_loadK 0 (by kernel_rfl) hH rfl rfl rfl) ?_
   refine glo 1 [(8, errV R120.2)] ?_
   refine gl_dn rfl ?_
   refine sw_ret ?_
   refine ret1 rfl rfl  ?_
   replace hH := hH.fr5.fr4.fr3
   replace hH : Hp w w126 _ _ [_, _, _] := (hH.sublist (slk (slk (slk sln))))
   exact save_fin (hsv.trans (saveW_1 hr121 hz1)) rfl hR123 (hL.mono hle) hH.turned
end Go.Proofs.YtajapgjemefoiaaGreatDoor
/- Layer 19 (wal): entries are let go: what it answers. -/
set_option maxRecDepth 100000
set_option maxHeartbeats 4000000
set_option linter.unusedVariables false
set_option linter.unusedSimpArgs false
namespace Go.Proofs.YtajapgjemefoiaaGreatDoor
open Go.RowKit Go.SW
def remC (D : Dsk) (e : Nat) (ks : List Nat) : Dsk × Nat := if e = 0 then remAll D ks else (D, e)
theorem remC_next (D : Dsk) (k : Nat) (r : List Nat) : remC D 0 (k :: r) = remC (doD D 4 (nameF k) [] 0).1 (doD D 4 (nameF k) [] 0).2 r := by
  unfold remC
  rw [if_pos rfl, remAll_cons]
  by_cases h : (doD D 4 (nameF k) [] 0).2 = 0
  · rw [if_neg (fun x => x h), if_pos h]
  · rw [if_pos h, if_neg h]
theorem remC_stop {D : Dsk} {e : Nat} (h : e ≠ 0) (a b : List Nat) : remC D e a = remC D e b := by unfold remC; rw [if_neg h, if_neg h]
theorem remC_end (D : Dsk) (e : Nat) : remC D e [] = (D, e) := by
  unfold remC
  split
  · rename_i h; rw [h]; rfl
  · rfl
def ksOf (F : List Fil) : List Nat := ((partsF F).map fun ps => (sortP ps).map (·.k)).getD []
theorem compactL_bad {D : Dsk} {l : Lg} {i t : Int} (h : l.bad ≠ 0) : compactL D l i t = (D, l, l.bad) := by unfold compactL; rw [if_pos h]
theorem compactL_neg {D : Dsk} {l : Lg} {i t : Int} (h : l.bad = 0) (hn : i < 0 ∨ t < 0) : compactL D l i t = (D, l, 1) := by unfold compactL; rw [if_neg (fun x => x h), if_pos hn]
theorem compactL_is {D : Dsk} {l : Lg} {I T : Nat} (h : l.bad = 0) {c' : Cn} (hc : keepC l.c I T = c') {R RA : Dsk × Nat} (hR : doD D 2 (nameF (l.file + 1)) (recsB (allR c')) 0 = R) (hA : remC R.1 R.2 (ksOf D.fs) = RA) :
    compactL D l ((I : Nat) : Int) ((T : Nat) : Int) = (RA.1, ⟨if RA.2 = 0 then c' else l.c, l.file + 1, (recsB (allR c')).length, RA.2⟩, RA.2) := by
  unfold compactL
  rw [if_neg (fun x => x h), if_neg (by omega), Int.toNat_natCast, Int.toNat_natCast, hc]
  simp only [hR]
  unfold remC ksOf at hA
  by_cases h2 : R.2 = 0
  · rw [if_neg (fun x => x h2)]
    rw [if_pos h2] at hA
    rw [hA]
  · rw [if_pos h2]
    rw [if_neg h2] at hA
    subst hA
    simp only [if_neg h2]
theorem ks_of {D : Dsk} {bad : Bool} {ds : List PV} (h : (bad = true ∧ partsF D.fs = none ∧ ds = []) ∨ (bad = false ∧ (partsF D.fs).map sortP = some (ds.map PV.pt))) : ksOf D.fs = ds.map (·.k) := by
  unfold ksOf
  rcases h with ⟨_, h1, rfl⟩ | ⟨_, h1⟩
  · rw [h1]; rfl
  · obtain ⟨p0, h2, h3⟩ := Option.map_eq_some_iff.1 h1
    rw [h2, Option.map_some, Option.getD_some, h3, List.map_map]; rfl
theorem cnOk_keep {c : Cn} (h : CnOk c) {i t : Nat} (hi : i < 9223372036854775808) (ht : t < 9223372036854775808) : CnOk (keepC c i t) := by
  unfold keepC
  refine ⟨fun j e he => ?_, fun e he => ?_, h.term, h.vote, hi, ht⟩
  · simp only at he ⊢
    split at he
    · rename_i h1; rw [h1.1]; exact h.seq j e he
    split at he
    · rename_i h1
      rw [List.getElem?_drop] at he
      have := h.seq _ e he
      omega
    · cases he
  · simp only at he
    split at he
    · exact h.es e he
    split at he
    · exact h.es e (List.mem_of_mem_drop he)
    · cases he
theorem keep_len (c : Cn) (i t : Nat) : (keepC c i t).es.length ≤ c.es.length := by
  unfold keepC
  simp only
  split
  · omega
  split
  · rw [List.length_drop]; omega
  · simp
theorem en_drop {c : Zone} {v : Value} {es : EQ} {f : Nat} (hf : f ≤ es.length) (h : Row c v 4 (es.length - f) (((rowC enC es).drop (f * 4)).take ((es.length - f) * 4))) : Row c v 4 (es.drop f).length (rowC enC (es.drop f)) := by
  rw [rowC_drop enC_len, List.take_of_length_le (by rw [rowC_len enC_len, List.length_drop]; omega)] at h
  rw [List.length_drop]; exact h
theorem keep_none {pl : Pl} {c : Cn} {es : EQ} {ve : Value} (h : CnR pl c es ve) {i t : Nat} (h1 : ¬ (i = c.ix ∧ t = c.ah)) (h2 : ¬ (c.ix < i ∧ i - c.ix ≤ c.es.length ∧ (c.es[i - c.ix - 1]?).map (·.tm) = some t)) : CnR pl (keepC c i t) [] (.slice none 0 0) := by
  refine CnR.nil pl _ ?_
  unfold keepC
  simp only
  rw [if_neg h1, if_neg h2]
theorem keep_all {pl : Pl} {c : Cn} {es : EQ} {ve v2 : Value} (h : CnR pl c es ve) {i t k : Nat} (hk : (i = c.ix ∧ t = c.ah ∧ k = 0) ∨ (¬ (i = c.ix ∧ t = c.ah) ∧ (c.ix < i ∧ i - c.ix ≤ c.es.length ∧ (c.es[i - c.ix - 1]?).map (·.tm) = some t) ∧ k = i - c.ix)) (hr : Row (pz pl) v2 4 (es.drop k).length (rowC enC (es.drop k))) : CnR pl (keepC c i t) (es.drop k) v2 := by
  refine ⟨?_, hr, fun q hq => h.ok q (List.mem_of_mem_drop hq)⟩
  rw [List.map_drop, h.fst]
  unfold keepC
  simp only
  rcases hk with ⟨h1, h2, rfl⟩ | ⟨h1, h2, rfl⟩
  · rw [if_pos ⟨h1, h2⟩, List.drop_zero]
  · rw [if_neg h1, if_pos h2]
theorem en_tm {c : Cn} {es : EQ} (h : es.map (·.1) = c.es) {j : Nat} {q : En × Value} (hq : es[j]? = some q) : (c.es[j]?).map (·.tm) = some q.1.tm := by rw [← h, List.getElem?_map, hq]; rfl

theorem rd_loadP {P : Program} {fr : Fr} {w w0 : World} {z : Zone} {F : List Nat} {os : List Own} {d : Option Tmp} {ty : TypeId} {pos : String} {aft : Array Edge} {gd : Option (Nat × Bool)} {t : TypeId} {x : Operand} (k : Nat) (ht : scalarT P t = true) (hH : Hp w0 w z F os) {a : Addr} (hx : ev fr x = .pointer (some a)) {pl : Pl} (hk : os[k]? = some (plO pl)) {v : Value} (hv : pz pl a = some v) :
    Runs P fr ⟨d, .load t x, ty, pos, aft, gd⟩ v w := rd_load ht hx (pz_le hH k hk a v hv)

theorem drop_k {ds : List PV} {j : Nat} {q : PV} (h : ds[j]? = some q) : (ds.drop j).map (·.k) = q.k :: (ds.drop (j + 1)).map (·.k) := by
  have hl := (List.getElem?_eq_some_iff.1 h).1
  have he := (List.getElem?_eq_some_iff.1 h).2
  rw [List.drop_eq_getElem_cons hl, he]; rfl
theorem KOk.sub3 {w0 w : World} {z : Zone} {F : List Nat} {a b c : Own} {os : List Own} {k : Nat} (h : KOk w0 F k) (hH : Hp w0 w z F (a :: b :: c :: os)) : KOk w (blksOf [a, b, c]) k := KOk.sub (mine := [a, b, c]) h hH

theorem Compact_ct (g db mb ab : Nat) (l : Lg) (i t : Int) (ve : Value) (es : EQ) (pl : Pl) (D : Dsk) (pe : List PE) (M : Nat) (w : World) (hM : Mine w [lgO g db l.c ve ((l.file : Nat) : Int) ((l.long : Nat) : Int) (errV l.bad), plO pl, .grp (dskO db mb ab D pe)]) (hL : CnR pl l.c es ve) (hc : CnOk l.c) (hn : l.c.es.length ≤ 1000000) (hi : i ≤ 9223372036854775807) (ht : t ≤ 9223372036854775807) (hbig0 : ∀ I T : Nat, I < 9223372036854775808 → T < 9223372036854775808 → (recsB (allR (keepC l.c I T))).length ≤ 1073741824)
    (hR : Rep pe D.fs) (hA : ArOk D.ar) (hG : Good D.fs M) (hMM : M ≤ 2147483648) (hN : D.fs.length ≤ 1000) (hfl : l.file < 4294967296) (hTn : KOk w (blksOf [lgO g db l.c ve ((l.file : Nat) : Int) ((l.long : Nat) : Int) (errV l.bad), plO pl, .grp (dskO db mb ab D pe)]) (l.file + 1)) (hks : ∀ k ∈ ksOf D.fs, KOk w (blksOf [lgO g db l.c ve ((l.file : Nat) : Int) ((l.long : Nat) : Int) (errV l.bad), plO pl, .grp (dskO db mb ab D pe)]) k) :
    Fun Tryz.prog 16 [.pointer (some ⟨g, 0, none⟩), .int .i64 i, .int .i64 t] w fun r w' => SavePost g db mb ab l ve pl D pe (compactL D l i t) w r w' := by
 obtain ⟨Ae, ce, rfl, he1, he2⟩ := hL.row.form
 have hc1 := hc.ix
 have hll := hL.len
 refine fun_of_sw Tryz.func16 rfl 143 rfl rfl ?_
 have hH := Hp.start_mine hM
 refine sw_sr ?_
 refine glo 1 [(0, Pp g 0), (1, .int .i64 i), (2, .int .i64 t)] ?_
 refine gl_dn rfl ?_
 refine sw_seq ?_
 refine sw_sr ?_
 refine glo 3 [(0, Pp g 0), (1, .int .i64 i), (2, .int .i64 t), (15, Pp g 8)] ?_
 refine gl_q rfl rfl rfl (rd_loadK 0 (by kernel_rfl) hH rfl rfl rfl) ?_
 refine gl_q rfl rfl rfl (rd_err_ne (by kernel_rfl) rfl) ?_
 refine gl_dn rfl ?_
 refine sw_cond rfl rfl (fun hc1 => ?_) (fun hc1 => ?_)
 ·
  try simp only [bne_iff_ne, ne_eq] at hc1
  have hb0 : l.bad ≠ 0 := by simpa using hc1
  refine sw_sr ?_
  refine glo 3 [(20, Pp g 8)] ?_
  refine gl_q rfl rfl rfl (rd_loadK 0 (by kernel_rfl) hH rfl rfl rfl) ?_
  refine glo 1 [(6, errV l.bad)] ?_
  refine gl_dn rfl ?_
  refine sw_ret ?_
  refine thR ?_
  refine ret1 rfl rfl  ?_
  replace hH : Hp w w _ _ [_, _, _] := (hH.sublist (slk (slk (slk sln))))
  exact save_fin (compactL_bad hb0) rfl hR hL hH.turned
 try simp only [bne_eq_false_iff_eq] at hc1
 have hb0 : l.bad = 0 := by simpa using hc1
 refine sw_skip ?_
 refine sw_next ?_
 refine sw_seq ?_
 refine sw_sr ?_
 refine glo 3 [(0, Pp g 0), (1, .int .i64 i), (2, .int .i64 t), (24, .bool (decide ((i : Int) < (0 : Int))))] ?_
 refine gl_split 24 (b := decide ((i : Int) < (0 : Int))) rfl (fun hg2 => ?_) (fun hg2 => ?_)
 ·
  try simp only [decide_eq_true_eq] at hg2
  have hneg : i < 0 ∨ t < 0 := .inl (by omega)
  refine glo 3 [(0, Pp g 0), (1, .int .i64 i), (2, .int .i64 t), (27, .bool true)] ?_
  refine gl_dn rfl ?_
  refine sw_true rfl rfl ?_
  refine sw_sr ?_
  refine glo 2 [(6, .iface 38 (.int .i64 1))] ?_
  refine gl_dn rfl ?_
  refine sw_ret ?_
  refine thR ?_
  refine ret1 rfl rfl  ?_
  replace hH : Hp w w _ _ [_, _, _] := (hH.sublist (slk (slk (slk sln))))
  exact save_fin (compactL_neg hb0 hneg) rfl hR hL hH.turned
 try simp only [decide_eq_false_iff_not, Int.not_lt, Int.not_le] at hg2
 refine glo 3 [(0, Pp g 0), (1, .int .i64 i), (2, .int .i64 t), (27, .bool (decide ((t : Int) < (0 : Int))))] ?_
 refine gl_dn rfl ?_
 refine sw_cond rfl rfl (fun hc4 => ?_) (fun hc4 => ?_)
 ·
  try simp only [decide_eq_true_eq] at hc4
  have hneg : i < 0 ∨ t < 0 := by omega
  refine sw_sr ?_
  refine glo 2 [(6, .iface 38 (.int .i64 1))] ?_
  refine gl_dn rfl ?_
  refine sw_ret ?_
  refine thR ?_
  refine ret1 rfl rfl  ?_
  replace hH : Hp w w _ _ [_, _, _] := (hH.sublist (slk (slk (slk sln))))
  exact save_fin (compactL_neg hb0 hneg) rfl hR hL hH.turned
 try simp only [decide_eq_false_iff_not, Int.not_lt, Int.not_le] at hc4
 refine sw_skip ?_
 refine sw_next ?_
 obtain ⟨I, rfl⟩ : ∃ I : Nat, i = I := ⟨i.toNat, by omega⟩
 obtain ⟨T, rfl⟩ : ∃ T : Nat, t = T := ⟨t.toNat, by omega⟩
 refine sw_sr ?_
 refine glo 3 [(0, Pp g 0), (1, Ni I), (2, Ni T), (31, Pp g 1)] ?_
 refine gl_q rfl rfl rfl (rd_loadKA (m := 5) 0 (by kernel_rfl) hH rfl rfl (by kernel_rfl) [Ni l.c.term, Ni l.c.vote, Ni l.c.ix, Ni l.c.ah, .slice Ae es.length ce] rfl rfl) ?_
 refine gl_st (st_allocH rfl rfl rfl (cs := [.int .i64 0, .int .i64 0, .int .i64 0, .int .i64 0, .slice none 0 0]) (by kernel_rfl) hH ?_)
 clear hH; intro b1 w2 hH
 refine gl_st (st_storeKA (vs := [Ni l.c.term, Ni l.c.vote, Ni l.c.ix, Ni l.c.ah, .slice Ae es.length ce]) 3 rfl rfl rfl hH rfl rfl (by kernel_rfl) (by kernel_rfl) rfl (by simp) [Ni l.c.term, Ni l.c.vote, Ni l.c.ix, Ni l.c.ah, .slice Ae es.length ce] rfl ?_)
 clear hH; intro w3 hH
 refine gl_dn rfl ?_
 refine sw_sr ?_
 refine glo 8 [(0, Pp g 0), (1, Ni I), (2, Ni T), (7, Pp b1 0), (34, Pp g 0), (35, Pp g 0), (36, Ni I), (37, Ni T), (40, Pp g 3)] ?_
 refine gl_st (st_storeK (v := Ni I) 0 rfl rfl rfl hH rfl rfl rfl (by kernel_rfl) rfl (by simp) ?_)
 clear hH; intro w4 hH
 refine glo 3 [(0, Pp g 0), (1, Ni I), (2, Ni T), (7, Pp b1 0), (35, Pp g 0), (37, Ni T), (43, Pp g 4)] ?_
 refine gl_st (st_storeK (v := Ni T) 0 rfl rfl rfl hH rfl rfl rfl (by kernel_rfl) rfl (by simp) ?_)
 clear hH; intro w5 hH
 refine glo 3 [(0, Pp g 0), (1, Ni I), (2, Ni T), (7, Pp b1 0), (46, Pp g 5)] ?_
 refine gl_st (st_storeK (v := .slice none 0 0) 0 rfl rfl rfl hH rfl rfl rfl (by kernel_rfl) rfl (by simp) ?_)
 clear hH; intro w6 hH
 refine gl_dn rfl ?_
 refine sw_sr ?_
 refine glo 2 [(0, Pp g 0), (2, Ni T), (7, Pp b1 0), (47, Ni I), (48, Pp b1 2)] ?_
 refine gl_q rfl rfl rfl (rd_loadK 3 (by kernel_rfl) hH rfl rfl rfl) ?_
 refine glo 1 [(0, Pp g 0), (2, Ni T), (7, Pp b1 0), (50, .int .i64 (IntKind.i64.wrap (((I : Nat) : Int) - ((l.c.ix : Nat) : Int))))] ?_
 refine gl_cv 50 (.int .i64 (((I : Nat) : Int) - ((l.c.ix : Nat) : Int))) (cv_i64 (by omega)) rfl ?_
 refine glo 1 [(0, Pp g 0), (2, Ni T), (7, Pp b1 0), (8, .int .i64 (((I : Nat) : Int) - ((l.c.ix : Nat) : Int)))] ?_
 refine gl_dn rfl ?_
 refine sw_cut (γ := EQ × Option Addr × Nat) (fun (es2, A2, c2) => [(0, Pp g 0), (7, Pp b1 0)]) (fun (es2, A2, c2) w_ => (CnR pl (keepC l.c I T) es2 (.slice A2 es2.length c2)) ∧ Hp w w_ (off w (blksOf [lgO g db l.c (.slice Ae es.length ce) ((l.file : Nat) : Int) ((l.long : Nat) : Int) (errV l.bad), plO pl, .grp (dskO db mb ab D pe)])) (blksOf [lgO g db l.c (.slice Ae es.length ce) ((l.file : Nat) : Int) ((l.long : Nat) : Int) (errV l.bad), plO pl, .grp (dskO db mb ab D pe)]) [.blk g 96 [Pp db 0, Ni l.c.term, Ni l.c.vote, Ni I, Ni T, .slice A2 es2.length c2, Ni l.file, Ni l.long, errV l.bad], plO pl, .grp (dskO db mb ab D pe), .blk b1 94 [Ni l.c.term, Ni l.c.vote, Ni l.c.ix, Ni l.c.ah, .slice Ae es.length ce]]) ?_ ?_
 ·
  refine sw_sr ?_
  refine glo 3 [(0, Pp g 0), (2, Ni T), (7, Pp b1 0), (8, .int .i64 (((I : Nat) : Int) - ((l.c.ix : Nat) : Int))), (53, .bool ((((I : Nat) : Int) - ((l.c.ix : Nat) : Int)) == (0 : Int)))] ?_
  refine gl_split 53 (b := (((I : Nat) : Int) - ((l.c.ix : Nat) : Int)) == (0 : Int)) rfl (fun hg5 => ?_) (fun hg5 => ?_)
  ·
   try simp only [beq_iff_eq] at hg5
   have hk0 : I = l.c.ix := by omega
   refine glo 2 [(0, Pp g 0), (2, Ni T), (7, Pp b1 0), (8, .int .i64 (((I : Nat) : Int) - ((l.c.ix : Nat) : Int))), (53, .bool true), (54, Ni T), (55, Pp b1 3)] ?_
   refine gl_q rfl rfl rfl (rd_loadK 3 (by kernel_rfl) hH rfl rfl rfl) ?_
   refine glo 3 [(0, Pp g 0), (2, Ni T), (7, Pp b1 0), (8, .int .i64 (((I : Nat) : Int) - ((l.c.ix : Nat) : Int))), (59, .bool (((T : Nat) : Int) == ((l.c.ah : Nat) : Int)))] ?_
   refine gl_split 59 (b := ((T : Nat) : Int) == ((l.c.ah : Nat) : Int)) rfl (fun hg6 => ?_) (fun hg6 => ?_)
   ·
    try simp only [beq_iff_eq] at hg6
    have hta : T = l.c.ah := by omega
    have hkz : ((I : Nat) : Int) - ((l.c.ix : Nat) : Int) = ((0 : Nat) : Int) := by omega
    refine glo 21 [(0, Pp g 0), (7, Pp b1 0), (8, .int .i64 (((I : Nat) : Int) - ((l.c.ix : Nat) : Int))), (80, .bool true)] ?_
    refine gl_dn rfl ?_
    refine sw_true rfl rfl ?_
    refine sw_region ?_
    refine glo 2 [(0, Pp g 0), (7, Pp b1 0), (8, .int .i64 (((I : Nat) : Int) - ((l.c.ix : Nat) : Int))), (81, Pp g 0), (82, Pp b1 4)] ?_
    refine gl_q rfl rfl rfl (rd_loadK 3 (by kernel_rfl) hH rfl rfl rfl) ?_
    refine glo 1 [(0, Pp g 0), (7, Pp b1 0), (81, Pp g 0), (83, .slice Ae es.length ce), (84, .int .i64 (((I : Nat) : Int) - ((l.c.ix : Nat) : Int)))] ?_
    refine gl_cv 84 (.int .i64 0) (by rw [hkz] <;> rfl) rfl ?_
    obtain ⟨A9, hc9, hv9⟩ := hL.row.cut (by decide) 0 es.length (by omega) (by omega)
    have hR9 := en_drop (by omega) hv9
    refine gl_q rfl rfl rfl (rd_cut (e := 64) (m := 4) (by kernel_rfl) (by kernel_rfl) rfl (.inr ⟨_, _, rfl, rfl⟩) (.inl ⟨rfl, rfl⟩) hc9) ?_
    rw [show es.length - 0 = (es.drop 0).length from (List.length_drop ..).symm] at hR9
    refine gl_cv 85 (.slice A9 ((es.drop 0).length) (ce - 0)) (by rw [List.length_drop]) rfl ?_
    refine glo 3 [(0, Pp g 0), (7, Pp b1 0), (85, .slice A9 ((es.drop 0).length) (ce - 0)), (88, Pp g 5)] ?_
    refine gl_st (st_storeK (v := .slice A9 ((es.drop 0).length) (ce - 0)) 0 rfl rfl rfl hH rfl rfl rfl (by kernel_rfl) rfl (by simp) ?_)
    clear hH; intro w7 hH
    refine gl_done rfl ?_
    refine cut_end (es.drop 0, A9, ce - 0) (Sub.of_eq (by kernel_rfl)) ?_
    replace hH : Hp w w7 _ _ [_, _, _, _] := (hH.sublist (slk (slk (slk (slk sln)))))
    exact ⟨keep_all hL (.inl ⟨hk0, hta, rfl⟩) hR9, hH⟩
   try simp only [beq_eq_false_iff_ne, ne_eq] at hg6
   have hta : ¬ T = l.c.ah := by omega
   refine glo 3 [(0, Pp g 0), (2, Ni T), (7, Pp b1 0), (8, .int .i64 (((I : Nat) : Int) - ((l.c.ix : Nat) : Int))), (59, .bool false), (62, .bool (decide ((((I : Nat) : Int) - ((l.c.ix : Nat) : Int)) > (0 : Int))))] ?_
   refine gl_split 62 (b := decide ((((I : Nat) : Int) - ((l.c.ix : Nat) : Int)) > (0 : Int))) rfl (fun hg8 => ?_) (fun hg8 => ?_)
   ·
    try simp only [decide_eq_true_eq] at hg8
    exfalso; omega
   try simp only [decide_eq_false_iff_not, Int.not_lt, Int.not_le] at hg8
   have hgt : ¬ l.c.ix < I := by omega
   refine glo 18 [(0, Pp g 0), (7, Pp b1 0), (8, .int .i64 (((I : Nat) : Int) - ((l.c.ix : Nat) : Int))), (80, .bool false)] ?_
   refine gl_dn rfl ?_
   refine sw_false rfl rfl ?_
   refine sw_skip ?_
   refine cut_end ([], none, 0) (Sub.of_eq (by kernel_rfl)) ?_
   replace hH : Hp w w6 _ _ [_, _, _, _] := (hH.sublist (slk (slk (slk (slk sln)))))
   exact ⟨keep_none hL (fun h => hta h.2) (fun h => hgt h.1), hH⟩
  try simp only [beq_eq_false_iff_ne, ne_eq] at hg5
  have hk0 : ¬ I = l.c.ix := by omega
  refine glo 9 [(0, Pp g 0), (2, Ni T), (7, Pp b1 0), (8, .int .i64 (((I : Nat) : Int) - ((l.c.ix : Nat) : Int))), (59, .bool false), (62, .bool (decide ((((I : Nat) : Int) - ((l.c.ix : Nat) : Int)) > (0 : Int))))] ?_
  refine gl_split 62 (b := decide ((((I : Nat) : Int) - ((l.c.ix : Nat) : Int)) > (0 : Int))) rfl (fun hg10 => ?_) (fun hg10 => ?_)
  ·
   try simp only [decide_eq_true_eq] at hg10
   have hgt : l.c.ix < I := by omega
   refine glo 2 [(0, Pp g 0), (2, Ni T), (7, Pp b1 0), (8, .int .i64 (((I : Nat) : Int) - ((l.c.ix : Nat) : Int))), (59, .bool false), (62, .bool true), (63, .int .i64 (((I : Nat) : Int) - ((l.c.ix : Nat) : Int))), (64, Pp b1 4)] ?_
   refine gl_q rfl rfl rfl (rd_loadK 3 (by kernel_rfl) hH rfl rfl rfl) ?_
   refine gl_q rfl rfl rfl (rd_len (e := 64) (by kernel_rfl) rfl) ?_
   refine glo 3 [(0, Pp g 0), (2, Ni T), (7, Pp b1 0), (8, .int .i64 (((I : Nat) : Int) - ((l.c.ix : Nat) : Int))), (59, .bool false), (69, .bool (decide ((((I : Nat) : Int) - ((l.c.ix : Nat) : Int)) ≤ ((es.length : Nat) : Int))))] ?_
   refine gl_split 69 (b := decide ((((I : Nat) : Int) - ((l.c.ix : Nat) : Int)) ≤ ((es.length : Nat) : Int))) rfl (fun hg11 => ?_) (fun hg11 => ?_)
   ·
    try simp only [decide_eq_true_eq] at hg11
    have hle : I - l.c.ix ≤ l.c.es.length := by have := hL.len; omega
    refine glo 1 [(0, Pp g 0), (2, Ni T), (7, Pp b1 0), (8, .int .i64 (((I : Nat) : Int) - ((l.c.ix : Nat) : Int))), (59, .bool false), (69, .bool true), (70, Pp b1 4)] ?_
    refine gl_q rfl rfl rfl (rd_loadK 3 (by kernel_rfl) hH rfl rfl rfl) ?_
    refine glo 2 [(0, Pp g 0), (2, Ni T), (7, Pp b1 0), (8, .int .i64 (((I : Nat) : Int) - ((l.c.ix : Nat) : Int))), (59, .bool false), (69, .bool true), (71, .slice Ae es.length ce), (73, .int .i64 (IntKind.i64.wrap ((((I : Nat) : Int) - ((l.c.ix : Nat) : Int)) - 1)))] ?_
    refine gl_cv 73 (Ni (I - l.c.ix - 1)) (cv_i64 (by omega)) rfl ?_
    obtain ⟨q, hq⟩ : ∃ q, es[I - l.c.ix - 1]? = some q := ⟨_, List.getElem?_eq_getElem (by omega)⟩
    obtain ⟨p9, hi9, hp9⟩ := hL.row.idx (I - l.c.ix - 1) (by omega) (by decide)
    have htm := en_tm hL.fst hq
    refine gl_q rfl rfl rfl (rd_idx (e := 64) (m := 4) (by kernel_rfl) (by kernel_rfl) rfl rfl hi9) ?_
    refine glo 1 [(0, Pp g 0), (2, Ni T), (7, Pp b1 0), (8, .int .i64 (((I : Nat) : Int) - ((l.c.ix : Nat) : Int))), (59, .bool false), (69, .bool true), (75, .pointer (some (p9.add 1)))] ?_
    refine gl_q rfl rfl rfl (rd_loadP 1 (by kernel_rfl) hH rfl rfl (hp9 1 _ (by decide) (rowC_at enC_len hq 1 (by decide) rfl))) ?_
    refine glo 4 [(0, Pp g 0), (7, Pp b1 0), (8, .int .i64 (((I : Nat) : Int) - ((l.c.ix : Nat) : Int))), (80, .bool (((q.1.tm : Nat) : Int) == ((T : Nat) : Int)))] ?_
    refine gl_dn rfl ?_
    refine sw_cond rfl rfl (fun hc12 => ?_) (fun hc12 => ?_)
    ·
     try simp only [beq_iff_eq] at hc12
     have hteq : q.1.tm = T := by omega
     have hkz : ((I : Nat) : Int) - ((l.c.ix : Nat) : Int) = ((I - l.c.ix : Nat) : Int) := by omega
     refine sw_region ?_
     refine glo 2 [(0, Pp g 0), (7, Pp b1 0), (8, .int .i64 (((I : Nat) : Int) - ((l.c.ix : Nat) : Int))), (81, Pp g 0), (82, Pp b1 4)] ?_
     refine gl_q rfl rfl rfl (rd_loadK 3 (by kernel_rfl) hH rfl rfl rfl) ?_
     refine glo 1 [(0, Pp g 0), (7, Pp b1 0), (81, Pp g 0), (83, .slice Ae es.length ce), (84, .int .i64 (((I : Nat) : Int) - ((l.c.ix : Nat) : Int)))] ?_
     refine gl_cv 84 (Ni (I - l.c.ix)) (by rw [hkz] <;> rfl) rfl ?_
     obtain ⟨A9, hc9, hv9⟩ := hL.row.cut (by decide) (I - l.c.ix) es.length (by omega) (by omega)
     have hR9 := en_drop (by omega) hv9
     refine gl_q rfl rfl rfl (rd_cut (e := 64) (m := 4) (by kernel_rfl) (by kernel_rfl) rfl (.inr ⟨_, _, rfl, rfl⟩) (.inl ⟨rfl, rfl⟩) hc9) ?_
     rw [show es.length - (I - l.c.ix) = (es.drop (I - l.c.ix)).length from (List.length_drop ..).symm] at hR9
     refine gl_cv 85 (.slice A9 ((es.drop (I - l.c.ix)).length) (ce - (I - l.c.ix))) (by rw [List.length_drop]) rfl ?_
     refine glo 3 [(0, Pp g 0), (7, Pp b1 0), (85, .slice A9 ((es.drop (I - l.c.ix)).length) (ce - (I - l.c.ix))), (88, Pp g 5)] ?_
     refine gl_st (st_storeK (v := .slice A9 ((es.drop (I - l.c.ix)).length) (ce - (I - l.c.ix))) 0 rfl rfl rfl hH rfl rfl rfl (by kernel_rfl) rfl (by simp) ?_)
     clear hH; intro w8 hH
     refine gl_done rfl ?_
     refine cut_end (es.drop (I - l.c.ix), A9, ce - (I - l.c.ix)) (Sub.of_eq (by kernel_rfl)) ?_
     replace hH : Hp w w8 _ _ [_, _, _, _] := (hH.sublist (slk (slk (slk (slk sln)))))
     exact ⟨keep_all hL (.inr ⟨fun h => hk0 h.1, ⟨hgt, hle, by rw [htm, hteq]⟩, rfl⟩) hR9, hH⟩
    try simp only [beq_eq_false_iff_ne, ne_eq] at hc12
    have hteq : ¬ q.1.tm = T := by omega
    refine sw_skip ?_
    refine cut_end ([], none, 0) (Sub.of_eq (by kernel_rfl)) ?_
    replace hH : Hp w w6 _ _ [_, _, _, _] := (hH.sublist (slk (slk (slk (slk sln)))))
    exact ⟨keep_none hL (fun h => hk0 h.1) (fun h => hteq (by have := h.2.2; rw [htm] at this; exact Option.some.inj this)), hH⟩
   try simp only [decide_eq_false_iff_not, Int.not_lt, Int.not_le] at hg11
   have hle : ¬ I - l.c.ix ≤ l.c.es.length := by have := hL.len; omega
   refine glo 11 [(0, Pp g 0), (7, Pp b1 0), (8, .int .i64 (((I : Nat) : Int) - ((l.c.ix : Nat) : Int))), (80, .bool false)] ?_
   refine gl_dn rfl ?_
   refine sw_false rfl rfl ?_
   refine sw_skip ?_
   refine cut_end ([], none, 0) (Sub.of_eq (by kernel_rfl)) ?_
   replace hH : Hp w w6 _ _ [_, _, _, _] := (hH.sublist (slk (slk (slk (slk sln)))))
   exact ⟨keep_none hL (fun h => hk0 h.1) (fun h => hle h.2.1), hH⟩
  try simp only [decide_eq_false_iff_not, Int.not_lt, Int.not_le] at hg10
  have hgt : ¬ l.c.ix < I := by omega
  refine glo 18 [(0, Pp g 0), (7, Pp b1 0), (8, .int .i64 (((I : Nat) : Int) - ((l.c.ix : Nat) : Int))), (80, .bool false)] ?_
  refine gl_dn rfl ?_
  refine sw_false rfl rfl ?_
  refine sw_skip ?_
  refine cut_end ([], none, 0) (Sub.of_eq (by kernel_rfl)) ?_
  replace hH : Hp w w6 _ _ [_, _, _, _] := (hH.sublist (slk (slk (slk (slk sln)))))
  exact ⟨keep_none hL (fun h => hk0 h.1) (fun h => hgt h.1), hH⟩
 clear hH
 rintro ⟨es2, A2, c2⟩ w9 ⟨hL2, hH⟩
 refine swk [(0, Pp g 0), (7, Pp b1 0)] ?_
 refine sw_sr ?_
 refine glo 3 [(0, Pp g 0), (7, Pp b1 0), (92, Pp g 0)] ?_
 refine gl_q rfl rfl rfl (rd_loadK 0 (by kernel_rfl) hH rfl rfl rfl) ?_
 have hc9 := hMM
 replace hH : Hp w w9 _ _ ([_] ++ [_, _, _]) := hH.fr3
 refine gl_st (st_call rfl rfl rfl (by kernel_rfl) rfl (PartsP_ct db mb ab D pe M _ hH.mine hR hG (by omega) hN) ?_)
 rintro _ w10 ⟨bad, fb, vf, ds, pf, rfl, hps, hpv, hF11⟩
 replace hH := hH.turns hF11; clear hF11
 replace hH : Hp w w10 _ _ [_, _, _, _, _, _, _] := hH
 have hdl : ds.length ≤ D.fs.length := parts_few hps
 obtain ⟨A12, c13, rfl, hl14, hm15⟩ := hH.row_form 4 rfl
 refine glo 5 [(0, Pp g 0), (7, Pp b1 0), (9, .slice A12 ds.length c13)] ?_
 refine gl_dn rfl ?_
 refine sw_sr ?_
 refine glo 5 [(0, Pp g 0), (7, Pp b1 0), (9, .slice A12 ds.length c13), (97, Pp g 0), (98, Pp g 0), (101, Pp g 6)] ?_
 refine gl_q rfl rfl rfl (rd_loadK 0 (by kernel_rfl) hH rfl rfl rfl) ?_
 refine glo 1 [(0, Pp g 0), (7, Pp b1 0), (9, .slice A12 ds.length c13), (97, Pp g 0), (98, Pp g 0), (103, .int .i64 (IntKind.i64.wrap (((l.file : Nat) : Int) + 1)))] ?_
 refine gl_cv 103 (Ni (l.file + 1)) (cv_i64 (by omega)) rfl ?_
 obtain ⟨R, hr⟩ : ∃ R, doD D 2 (nameF (l.file + 1)) (recsB (allR (keepC l.c I T))) 0 = R := ⟨_, rfl⟩
 have hcok := cnOk_keep hc (i := I) (t := T) (by omega) (by omega)
 have hl2 := hL2.len
 have hbig := hbig0 I T (by omega) (by omega)
 have hkl := keep_len l.c I T
 replace hH : Hp w w10 _ _ ([_, _, _] ++ [_, _, _, _]) := hH.fr4.fr3.fr3
 refine gl_st (st_call rfl rfl rfl (by kernel_rfl) rfl (by have h9 := Begin_ct g db mb ab (l.file + 1) (keepC l.c I T) ((l.file : Nat) : Int) ((l.long : Nat) : Int) (errV l.bad) _ es2 pl D pe M _ hH.mine hL2 hR hA hG (by omega) hcok hbig (by omega) (by omega) (hTn.sub3 hH); unfold BeginPost at h9; rw [hr] at h9; exact h9) ?_)
 rintro _ w16 ⟨pe2, rfl, hR2, hF17⟩
 replace hH := hH.turns hF17; clear hF17
 replace hH : Hp w w16 _ _ [_, _, _, _, _, _, _] := hH
 have hA2 : ArOk R.1.ar := by rw [← hr]; exact arOk_do hA _ _ _ _
 have hG2 : Good R.1.fs (M + (recsB (allR (keepC l.c I T))).length) := by rw [← hr]; exact good_doD hG _ _ _ _
 obtain ⟨RA, hRA⟩ : ∃ RA, remC R.1 R.2 (ds.map (·.k)) = RA := ⟨_, rfl⟩
 have hcl := compactL_is (RA := RA) hb0 rfl hr (by rw [ks_of hps]; exact hRA)
 refine glo 2 [(0, Pp g 0), (7, Pp b1 0), (9, .slice A12 ds.length c13), (104, errV R.2), (106, Pp g 8)] ?_
 refine gl_st (st_storeK (v := errV R.2) 4 rfl rfl rfl hH rfl rfl (errW_one _ _) (by kernel_rfl) rfl (by simp) ?_)
 clear hH; intro w18 hH
 refine gl_dn rfl ?_
 refine sw_seq ?_
 refine sw_sr ?_
 refine glo 1 [(0, Pp g 0), (7, Pp b1 0), (107, .slice A12 ds.length c13)] ?_
 refine gl_q rfl rfl rfl (rd_len (e := 106) (by kernel_rfl) rfl) ?_
 refine glo 1 [(0, Pp g 0), (7, Pp b1 0), (107, .slice A12 ds.length c13), (108, Ni ds.length), (109, .int .i64 0)] ?_
 refine gl_dn rfl ?_
 refine sw_block ?_
 replace hH := hH.fr2.fr7.fr7.fr7
 replace hH : Hp w w18 _ _ [_, _, _, _, _] := (hH.sublist (slk (slk (slk (slk (slk sln))))))
 refine sw_loop (γ := Nat × Dsk × Nat × List PE) (fun (j, Dj, ej, pej) => [(0, Pp g 0), (7, Pp b1 0), (107, .slice A12 ds.length c13), (108, Ni ds.length), (109, Ni j)]) (fun (j, Dj, ej, pej) w_ => (j ≤ ds.length) ∧ (Rep pej Dj.fs) ∧ (ArOk Dj.ar) ∧ (Good Dj.fs (M + (recsB (allR (keepC l.c I T))).length)) ∧ (remC Dj ej ((ds.drop j).map (·.k)) = RA) ∧ Hp w w_ (off w (blksOf [lgO g db l.c (.slice Ae es.length ce) ((l.file : Nat) : Int) ((l.long : Nat) : Int) (errV l.bad), plO pl, .grp (dskO db mb ab D pe)])) (blksOf [lgO g db l.c (.slice Ae es.length ce) ((l.file : Nat) : Int) ((l.long : Nat) : Int) (errV l.bad), plO pl, .grp (dskO db mb ab D pe)]) [.blk g 96 [Pp db 0, Ni l.c.term, Ni l.c.vote, Ni I, Ni T, .slice A2 es2.length c2, Ni (l.file + 1), Ni ((recsB (allR (keepC l.c I T))).length), errV ej], plO pl, .grp (dskO db mb ab Dj pej), .row (.slice A12 ds.length c13) 106 4 ds.length (rowC pvC ds), .blk b1 94 [Ni l.c.term, Ni l.c.vote, Ni l.c.ix, Ni l.c.ah, .slice Ae es.length ce]]) (fun (j, Dj, ej, pej) => ds.length - j) (0, R.1, R.2, pe2) (Sub.of_eq (by kernel_rfl)) ?_ ?_
 · exact ⟨by omega, hR2, hA2, hG2, by rw [List.drop_zero]; exact hRA, hH⟩
 clear hH
 rintro ⟨j, Dj, ej, pej⟩ w19 ⟨hj, hRj, hAj, hGj, hrem, hH⟩
 refine swk [(0, Pp g 0), (7, Pp b1 0), (107, .slice A12 ds.length c13), (108, Ni ds.length), (109, Ni j)] ?_
 refine sw_sr ?_
 refine glo 1 [(0, Pp g 0), (7, Pp b1 0), (107, .slice A12 ds.length c13), (108, Ni ds.length), (109, Ni j), (110, .bool (decide (((j : Nat) : Int) < ((ds.length : Nat) : Int))))] ?_
 refine gl_dn rfl ?_
 refine sw_seq ?_
 refine sw_cond rfl rfl (fun hc15 => ?_) (fun hc15 => ?_)
 ·
  try simp only [decide_eq_true_eq] at hc15
  refine sw_skip ?_
  refine sw_next ?_
  refine sw_seq ?_
  refine sw_block ?_
  obtain ⟨q, hq⟩ : ∃ q, ds[j]? = some q := ⟨_, List.getElem?_eq_getElem (by omega)⟩
  have hqk := (hpv q (List.mem_of_getElem? hq)).k
  have hT9 := hks q.k (by rw [ks_of hps]; exact List.mem_map.2 ⟨q, List.mem_of_getElem? hq, rfl⟩)
  refine sw_sr ?_
  obtain ⟨b21, hb20, hi22⟩ := hH.row_idx 3 rfl j (by omega)
  refine gl_q rfl rfl rfl (rd_idx (e := 106) (m := 4) (by kernel_rfl) (by kernel_rfl) rfl rfl hi22) ?_
  refine gl_q rfl rfl rfl (rd_loadOA (q := 4) 3 (by kernel_rfl) hH rfl rfl hb20 (by kernel_rfl) [Ni q.k, Ni q.whole, .bool q.more, .slice q.A q.rs.length q.cap] rfl (rowC_allO pvC_len hq _ rfl)) ?_
  refine gl_st (st_allocH rfl rfl rfl (cs := [.int .i64 0, .int .i64 0, .bool false, .slice none 0 0]) (by kernel_rfl) hH ?_)
  clear hH; intro b23 w24 hH
  refine gl_st (st_storeKA (vs := [Ni q.k, Ni q.whole, .bool q.more, .slice q.A q.rs.length q.cap]) 5 rfl rfl rfl hH rfl rfl (by kernel_rfl) (by kernel_rfl) rfl (by simp) [Ni q.k, Ni q.whole, .bool q.more, .slice q.A q.rs.length q.cap] rfl ?_)
  clear hH; intro w25 hH
  refine gl_dn rfl ?_
  refine sw_sr ?_
  refine glo 3 [(0, Pp g 0), (7, Pp b1 0), (12, Pp b23 0), (107, .slice A12 ds.length c13), (108, Ni ds.length), (109, Ni j), (115, Pp g 8)] ?_
  refine gl_q rfl rfl rfl (rd_loadK 0 (by kernel_rfl) hH rfl rfl rfl) ?_
  refine gl_q rfl rfl rfl (rd_err_eq (by kernel_rfl) rfl) ?_
  refine gl_dn rfl ?_
  refine sw_cond rfl rfl (fun hc16 => ?_) (fun hc16 => ?_)
  ·
   try simp only [beq_iff_eq] at hc16
   have hz9 : ej = 0 := by omega
   refine sw_draw (by kernel_rfl) (fun w_ => Hp w w_ (off w (blksOf [lgO g db l.c (.slice Ae es.length ce) ((l.file : Nat) : Int) ((l.long : Nat) : Int) (errV l.bad), plO pl, .grp (dskO db mb ab D pe)])) (blksOf [lgO g db l.c (.slice Ae es.length ce) ((l.file : Nat) : Int) ((l.long : Nat) : Int) (errV l.bad), plO pl, .grp (dskO db mb ab D pe)]) [plO pl, .row (.slice A12 ds.length c13) 106 4 ds.length (rowC pvC ds), .blk b1 94 [Ni l.c.term, Ni l.c.vote, Ni l.c.ix, Ni l.c.ah, .slice Ae es.length ce], .blk b23 106 [Ni q.k, Ni q.whole, .bool q.more, .slice q.A q.rs.length q.cap]]) ?_
   replace hH := hH.drew
   generalize { w25 with drawn := w25.drawn + 1 } = w26 at hH ⊢
   have hS9 := hH.sublist (slc (slk (slc (slk (slk (slk sln))))))
   refine gdo 5 [0,1,2,3,5] [(0, Pp g 0), (7, Pp b1 0), (107, .slice A12 ds.length c13), (108, Ni ds.length), (109, Ni j), (118, Pp g 0), (121, Pp g 0), (123, Pp b23 0)] hS9 (PQ.bk (PQ.th (PQ.th (PQ.bk (PQ.th PQ.body))))) ?_
   refine gdq 6 rfl (fun w_ hS => (rd_loadK 3 (by kernel_rfl) hS rfl rfl rfl)) hS9 (PQ.bk (PQ.th (PQ.th (PQ.bk (PQ.th PQ.body))))) ?_
   refine gd_st2 4 7 (by kernel_rfl) ?_ ?_
   ·
    refine st_q rfl rfl rfl (rd_loadK 0 (by kernel_rfl) hH rfl rfl rfl) ?_
    refine ⟨hS9, ?_⟩
    refine gdk [(0, Pp g 0), (7, Pp b1 0), (107, .slice A12 ds.length c13), (108, Ni ds.length), (109, Ni j), (118, Pp g 0), (122, Pp db 0), (124, Ni q.k)] ?_
    refine gds 7 (st_call rfl rfl rfl (by kernel_rfl) rfl (Name_ct q.k _ (by omega) (hT9.now hH)) ?_)
    rintro _ w27 ⟨rfl, hF28⟩
    replace hH := hH.call hF28; clear hF28
    replace hS9 := hH.sublist (slc (slk (slc (slk (slk (slk sln))))))
    refine ⟨hS9, ?_⟩
    obtain ⟨S, hs⟩ : ∃ S, doD Dj 4 (nameF q.k) [] 0 = S := ⟨_, rfl⟩
    replace hH : Hp w w27 _ _ ([_] ++ [_, _, _, _, _]) := hH.fr3
    refine gds 8 (st_call rfl rfl rfl (by kernel_rfl) rfl (by have h9 := Remove_ct db mb ab Dj pej (nameF q.k) (M + (recsB (allR (keepC l.c I T))).length) _ hH.mine hRj hAj hGj (by omega) (by have := nameF_short q.k (by omega); omega); rw [hs] at h9; exact h9) ?_)
    rintro _ w29 ⟨pe3, rfl, hR3, hF30⟩
    replace hH := hH.turns hF30; clear hF30
    replace hH : Hp w w29 _ _ [_, _, _, _, _, _] := hH
    have hA3 : ArOk S.1.ar := by rw [← hs]; exact arOk_do hAj _ _ _ _
    have hG3 : Good S.1.fs (M + (recsB (allR (keepC l.c I T))).length) := by rw [← hs]; exact (good_doD hGj _ _ _ _).mono (by simp)
    replace hS9 := hH.sublist (slc (slk (slk (slk (slk sln)))))
    refine ⟨hS9, ?_⟩
    refine gdo 2 [9,10] [(0, Pp g 0), (7, Pp b1 0), (107, .slice A12 ds.length c13), (108, Ni ds.length), (109, Ni j), (126, errV S.2), (128, Pp g 8)] hS9 (PQ.bk (PQ.th (PQ.th (PQ.bk (PQ.th PQ.body))))) ?_
    refine gds 11 (st_storeK (v := errV S.2) 0 rfl rfl rfl hH rfl rfl (errW_one _ _) (by kernel_rfl) rfl (by simp) ?_)
    clear hH; intro w31 hH
    replace hS9 := hH.sublist (slc (slk (slk (slk (slk sln)))))
    refine ⟨hS9, ?_⟩
    refine gdn [(0, Pp g 0), (7, Pp b1 0), (107, .slice A12 ds.length c13), (108, Ni ds.length), (109, Ni j)] ?_
    refine bkN ?_
    refine sw_next ?_
    refine sw_region ?_
    refine glo 1 [(0, Pp g 0), (7, Pp b1 0), (107, .slice A12 ds.length c13), (108, Ni ds.length), (129, .int .i64 (IntKind.i64.wrap (((j : Nat) : Int) + 1)))] ?_
    refine gl_cv 129 (Ni (j + 1)) (cv_i64 (by omega)) rfl ?_
    refine glo 1 [(0, Pp g 0), (7, Pp b1 0), (107, .slice A12 ds.length c13), (108, Ni ds.length), (109, Ni (j + 1))] ?_
    refine gl_done rfl ?_
    refine rnd_end (g := (j, Dj, ej, pej)) (j + 1, S.1, S.2, pe3) (by kernel_rfl) ?_ ?_
    replace hH := hH.fr4.fr4.fr6.fr5.fr5
    replace hH : Hp w w31 _ _ [_, _, _, _, _] := (hH.sublist (slk (slk (slk (slk (slk sln))))))
    · exact ⟨by omega, hR3, hA3, hG3, by rw [drop_k hq, hz9, remC_next, hs] at hrem; exact hrem, hH⟩
    · show ds.length - (j + 1) < ds.length - j; omega
   ·
    refine st_call rfl rfl rfl (by kernel_rfl) rfl (Name_ct q.k _ (by omega) (hT9.now hH)) ?_
    rintro _ w32 ⟨rfl, hF33⟩
    replace hH := hH.call hF33; clear hF33
    replace hS9 := hH.sublist (slc (slk (slc (slk (slk (slk sln))))))
    refine ⟨hS9, ?_⟩
    refine gdk [(0, Pp g 0), (7, Pp b1 0), (107, .slice A12 ds.length c13), (108, Ni ds.length), (109, Ni j), (118, Pp g 0), (121, Pp g 0), (125, .string (bs (nameF q.k)))] ?_
    refine gds 4 (st_q rfl rfl rfl (rd_loadK 0 (by kernel_rfl) hH rfl rfl rfl) ?_)
    refine ⟨hS9, ?_⟩
    obtain ⟨S, hs⟩ : ∃ S, doD Dj 4 (nameF q.k) [] 0 = S := ⟨_, rfl⟩
    replace hH : Hp w w32 _ _ ([_] ++ [_, _, _, _, _]) := hH.fr3
    refine gds 8 (st_call rfl rfl rfl (by kernel_rfl) rfl (by have h9 := Remove_ct db mb ab Dj pej (nameF q.k) (M + (recsB (allR (keepC l.c I T))).length) _ hH.mine hRj hAj hGj (by omega) (by have := nameF_short q.k (by omega); omega); rw [hs] at h9; exact h9) ?_)
    rintro _ w34 ⟨pe3, rfl, hR3, hF35⟩
    replace hH := hH.turns hF35; clear hF35
    replace hH : Hp w w34 _ _ [_, _, _, _, _, _] := hH
    have hA3 : ArOk S.1.ar := by rw [← hs]; exact arOk_do hAj _ _ _ _
    have hG3 : Good S.1.fs (M + (recsB (allR (keepC l.c I T))).length) := by rw [← hs]; exact (good_doD hGj _ _ _ _).mono (by simp)
    replace hS9 := hH.sublist (slc (slk (slk (slk (slk sln)))))
    refine ⟨hS9, ?_⟩
    refine gdo 2 [9,10] [(0, Pp g 0), (7, Pp b1 0), (107, .slice A12 ds.length c13), (108, Ni ds.length), (109, Ni j), (126, errV S.2), (128, Pp g 8)] hS9 (PQ.bk (PQ.th (PQ.th (PQ.bk (PQ.th PQ.body))))) ?_
    refine gds 11 (st_storeK (v := errV S.2) 0 rfl rfl rfl hH rfl rfl (errW_one _ _) (by kernel_rfl) rfl (by simp) ?_)
    clear hH; intro w36 hH
    replace hS9 := hH.sublist (slc (slk (slk (slk (slk sln)))))
    refine ⟨hS9, ?_⟩
    refine gdn [(0, Pp g 0), (7, Pp b1 0), (107, .slice A12 ds.length c13), (108, Ni ds.length), (109, Ni j)] ?_
    refine bkN ?_
    refine sw_next ?_
    refine sw_region ?_
    refine glo 1 [(0, Pp g 0), (7, Pp b1 0), (107, .slice A12 ds.length c13), (108, Ni ds.length), (129, .int .i64 (IntKind.i64.wrap (((j : Nat) : Int) + 1)))] ?_
    refine gl_cv 129 (Ni (j + 1)) (cv_i64 (by omega)) rfl ?_
    refine glo 1 [(0, Pp g 0), (7, Pp b1 0), (107, .slice A12 ds.length c13), (108, Ni ds.length), (109, Ni (j + 1))] ?_
    refine gl_done rfl ?_
    refine rnd_end (g := (j, Dj, ej, pej)) (j + 1, S.1, S.2, pe3) (by kernel_rfl) ?_ ?_
    replace hH := hH.fr4.fr4.fr6.fr5.fr5
    replace hH : Hp w w36 _ _ [_, _, _, _, _] := (hH.sublist (slk (slk (slk (slk (slk sln))))))
    · exact ⟨by omega, hR3, hA3, hG3, by rw [drop_k hq, hz9, remC_next, hs] at hrem; exact hrem, hH⟩
    · show ds.length - (j + 1) < ds.length - j; omega
  try simp only [beq_eq_false_iff_ne, ne_eq] at hc16
  have hz9 : ej ≠ 0 := by omega
  refine sw_skip ?_
  refine bkN ?_
  refine sw_next ?_
  refine sw_region ?_
  refine glo 1 [(0, Pp g 0), (7, Pp b1 0), (107, .slice A12 ds.length c13), (108, Ni ds.length), (129, .int .i64 (IntKind.i64.wrap (((j : Nat) : Int) + 1)))] ?_
  refine gl_cv 129 (Ni (j + 1)) (cv_i64 (by omega)) rfl ?_
  refine glo 1 [(0, Pp g 0), (7, Pp b1 0), (107, .slice A12 ds.length c13), (108, Ni ds.length), (109, Ni (j + 1))] ?_
  refine gl_done rfl ?_
  refine rnd_end (g := (j, Dj, ej, pej)) (j + 1, Dj, ej, pej) (by kernel_rfl) ?_ ?_
  replace hH : Hp w w25 _ _ [_, _, _, _, _] := (hH.sublist (slk (slk (slk (slk (slk sln))))))
  · exact ⟨by omega, hRj, hAj, hGj, by rw [drop_k hq] at hrem; rw [← hrem]; exact remC_stop hz9 _ _, hH⟩
  · show ds.length - (j + 1) < ds.length - j; omega
 try simp only [decide_eq_false_iff_not, Int.not_lt, Int.not_le] at hc15
 refine sw_exit ?_
 refine thX ?_
 refine thX ?_
 refine bkH ?_
 refine sw_next ?_
 refine sw_seq ?_
 have hje : j = ds.length := by omega
 subst hje
 rw [List.drop_length, show ([] : List PV).map (·.k) = [] from rfl, remC_end] at hrem
 subst hrem
 refine sw_sr ?_
 refine glo 3 [(0, Pp g 0), (7, Pp b1 0), (132, Pp g 8)] ?_
 refine gl_q rfl rfl rfl (rd_loadK 0 (by kernel_rfl) hH rfl rfl rfl) ?_
 refine gl_q rfl rfl rfl (rd_err_ne (by kernel_rfl) rfl) ?_
 refine gl_dn rfl ?_
 refine sw_cond rfl rfl (fun hc17 => ?_) (fun hc17 => ?_)
 ·
  try simp only [bne_iff_ne, ne_eq] at hc17
  have hz9 : ej ≠ 0 := by omega
  refine sw_region ?_
  refine glo 1 [(0, Pp g 0), (7, Pp b1 0), (135, Pp g 0)] ?_
  refine gl_q rfl rfl rfl (rd_loadKA (m := 5) 4 (by kernel_rfl) hH rfl rfl (by kernel_rfl) [Ni l.c.term, Ni l.c.vote, Ni l.c.ix, Ni l.c.ah, .slice Ae es.length ce] rfl rfl) ?_
  refine glo 2 [(0, Pp g 0), (136, .agg #[Ni l.c.term, Ni l.c.vote, Ni l.c.ix, Ni l.c.ah, .slice Ae es.length ce]), (138, Pp g 1)] ?_
  refine gl_st (st_storeKA (vs := [Ni l.c.term, Ni l.c.vote, Ni l.c.ix, Ni l.c.ah, .slice Ae es.length ce]) 0 rfl rfl rfl hH rfl rfl (by kernel_rfl) (by kernel_rfl) rfl (by simp) [Pp db 0, Ni l.c.term, Ni l.c.vote, Ni l.c.ix, Ni l.c.ah, .slice Ae es.length ce, Ni (l.file + 1), Ni ((recsB (allR (keepC l.c I T))).length), errV ej] rfl ?_)
  clear hH; intro w37 hH
  refine gl_done rfl ?_
  refine sw_next ?_
  refine sw_sr ?_
  refine glo 3 [(141, Pp g 8)] ?_
  refine gl_q rfl rfl rfl (rd_loadK 0 (by kernel_rfl) hH rfl rfl rfl) ?_
  refine glo 1 [(6, errV ej)] ?_
  refine gl_dn rfl ?_
  refine sw_ret ?_
  refine ret1 rfl rfl  ?_
  replace hH : Hp w w37 _ _ [_, _, _] := (hH.sublist (slk (slk (slk sln))))
  rw [if_neg hz9] at hcl
  exact save_fin hcl rfl hRj hL hH.turned
 try simp only [bne_eq_false_iff_eq] at hc17
 have hz9 : ej = 0 := by omega
 refine sw_skip ?_
 refine sw_next ?_
 refine sw_sr ?_
 refine glo 3 [(141, Pp g 8)] ?_
 refine gl_q rfl rfl rfl (rd_loadK 0 (by kernel_rfl) hH rfl rfl rfl) ?_
 refine glo 1 [(6, errV ej)] ?_
 refine gl_dn rfl ?_
 refine sw_ret ?_
 refine ret1 rfl rfl  ?_
 replace hH : Hp w w19 _ _ [_, _, _] := (hH.sublist (slk (slk (slk sln))))
 rw [if_pos hz9] at hcl
 exact save_fin hcl rfl hRj hL2 hH.turned
end Go.Proofs.YtajapgjemefoiaaGreatDoor
/- Laws 19: all that a log says; are two of these alike? What they answer. -/
set_option maxRecDepth 100000
set_option maxHeartbeats 4000000
set_option linter.unusedVariables false
set_option linter.unusedSimpArgs false
namespace Go.Proofs.YtajapgjemefoiaaGreatDoor
open Go.RowKit Go.SW
def enRow (q : En × Value) : Own := .row q.2 5 1 q.1.d.length (bv q.1.d)
def enRows (rs : EQ) : Own := .grp (rs.map enRow)
theorem en_setd {rs es : EQ} {i : Nat} {q : En × Value} (hl : rs.length = i) (hq : es[i]? = some q) (v : Value) : (rowC enC (rs ++ es.drop i)).set (i * 4 + 3) v = rowC enC ((rs ++ [(q.1, v)]) ++ es.drop (i + 1)) := by
  have hi := (List.getElem?_eq_some_iff.1 hq).1
  have he := (List.getElem?_eq_some_iff.1 hq).2
  have e1 : rowC enC (rs ++ es.drop i) = rowC enC rs ++ (enC q ++ rowC enC (es.drop (i + 1))) := by
    rw [← rowC_app, List.drop_eq_getElem_cons hi, he]; rfl
  have e2 : rowC enC ((rs ++ [(q.1, v)]) ++ es.drop (i + 1)) = rowC enC rs ++ (enC (q.1, v) ++ rowC enC (es.drop (i + 1))) := by
    rw [← rowC_app, ← rowC_app, List.append_assoc]; rfl
  have hlen : (rowC enC rs).length = i * 4 := by rw [rowC_len enC_len, hl]
  rw [e1, e2, List.set_append_right _ _ (by omega), hlen, Nat.add_sub_cancel_left]; rfl
theorem enV_of {c : Zone} {es : EQ} (h : ∀ q ∈ es, RB c q.2 q.1.d) : EnV es := fun q hq => by
  obtain ⟨A, cap, e, _⟩ := (h q hq).row.form
  exact ⟨A, _, cap, e⟩
theorem en_get {rs es : EQ} {i : Nat} {q : En × Value} (hl : rs.length = i) (hq : es[i]? = some q) : (rs ++ es.drop i)[i]? = some q := by
  rw [List.getElem?_append_right (by omega), hl, Nat.sub_self, List.getElem?_drop]; exact hq
theorem enRows_rb {w0 w : World} {z : Zone} {F : List Nat} {os : List Own} (hH : Hp w0 w z F os) (k : Nat) {rs : EQ} (hk : os[k]? = some (enRows rs)) : ∀ q ∈ rs, RB w.cell? q.2 q.1.d := by
  intro q hq
  have h : ∀ o ∈ rs.map enRow, o.at w := hH.own _ (List.mem_of_getElem? hk)
  exact Row.of_own (h (enRow q) (List.mem_map.2 ⟨q, hq, rfl⟩))
def eaN (e : En) : EA := ⟨e.ix, e.tm, e.kd, e.d⟩
def eiN (rs : EQ) : EI := rs.map fun q => (eaN q.1, q.2)
theorem row_eiN (rs : EQ) : rowC enC rs = rowC eiC (eiN rs) := by
  unfold rowC eiN
  rw [List.map_map]; rfl
theorem eiN_fst (rs : EQ) : (eiN rs).map (·.1) = (rs.map (·.1)).map eaN := by
  unfold eiN
  rw [List.map_map, List.map_map]; rfl
theorem eiN_len (rs : EQ) : (eiN rs).length = rs.length := by simp [eiN]
theorem eiN_rb {c : Zone} {rs : EQ} (h : ∀ q ∈ rs, RB c q.2 q.1.d) : ∀ q ∈ eiN rs, RB c q.2 q.1.d := by
  intro q hq
  obtain ⟨x, hx, rfl⟩ := List.mem_map.1 hq
  exact h x hx

theorem tk_next {es : EQ} {i : Nat} {e : En} {v : Value} (h : es[i]? = some (e, v)) : (es.map (·.1)).take (i + 1) = (es.map (·.1)).take i ++ [e] := by
  have hi := (List.getElem?_eq_some_iff.1 h).1
  have he := (List.getElem?_eq_some_iff.1 h).2
  rw [List.take_succ_eq_append_getElem (by rw [List.length_map]; exact hi), List.getElem_map, he]

theorem Entries_ct (g : Nat) (ve : Value) (es : EQ) (w : World) (h5 : w.cell? ⟨g, 5, none⟩ = some ve) (hE : Row w.cell? ve 4 es.length (rowC enC es)) (hD : ∀ q ∈ es, RB w.cell? q.2 q.1.d) (hdl : ∀ q ∈ es, q.1.d.length ≤ 1048576) (hl : es.length ≤ 1048576) :
    Fun Tryz.prog 25 [.pointer (some ⟨g, 0, none⟩)] w fun v w' => ∃ v1 rs, v = v1 ∧ rs.map (·.1) = es.map (·.1) ∧ Fresh w w' [.row v1 64 4 rs.length (rowC enC rs), enRows rs] := by
 obtain ⟨Ae, ce, rfl, he1, he2⟩ := hE.form
 refine fun_of_sw Tryz.func25 rfl 28 rfl rfl ?_
 have hH := Hp.start w
 refine sw_sr ?_
 refine glo 1 [(0, .pointer (some ⟨g, 0, none⟩))] ?_
 refine gl_dn rfl ?_
 refine sw_sr ?_
 refine glo 4 [(8, .pointer (some ⟨g, 5, none⟩))] ?_
 refine gl_q rfl rfl rfl (rd_load (by kernel_rfl) rfl (hH.zin _ _ h5)) ?_
 refine gl_st (st_call rfl rfl rfl (by kernel_rfl) rfl (EClone_ct _ es _ (hE.mono hH.zin) (enV_of hD) (by omega)) ?_)
 rintro _ w2 ⟨v1, rfl, hF3⟩
 replace hH := hH.call hF3; clear hF3
 obtain ⟨A4, c5, rfl, hl6, hm7⟩ := hH.row_form 0 rfl
 refine glo 1 [(3, .slice A4 es.length c5)] ?_
 refine gl_dn rfl ?_
 refine sw_seq ?_
 refine sw_sr ?_
 refine glo 1 [(3, .slice A4 es.length c5), (11, .slice A4 es.length c5)] ?_
 refine gl_q rfl rfl rfl (rd_len (e := 64) (by kernel_rfl) rfl) ?_
 refine glo 1 [(3, .slice A4 es.length c5), (12, Ni es.length), (13, .int .i64 0)] ?_
 refine gl_dn rfl ?_
 refine sw_block ?_
 replace hH := hH.nogrp
 replace hH : Hp w w2 _ _ [.row (.slice A4 es.length c5) 64 4 es.length (rowC enC es), enRows []] := hH
 replace hH : Hp w w2 _ _ [_, _] := (hH.sublist (slk (slk sln)))
 refine sw_loop (γ := Nat × EQ) (fun (i, rs) => [(3, .slice A4 es.length c5), (12, Ni es.length), (13, Ni i)]) (fun (i, rs) w_ => (i ≤ es.length) ∧ (rs.length = i) ∧ (rs.map (·.1) = (es.map (·.1)).take i) ∧ Hp w w_ (w.cell?) [] [.row (.slice A4 es.length c5) 64 4 es.length (rowC enC (rs ++ es.drop i)), enRows rs]) (fun (i, rs) => es.length - i) (0, []) (Sub.of_eq (by kernel_rfl)) ?_ ?_
 · exact ⟨by omega, rfl, rfl, hH⟩
 clear hH
 rintro ⟨i, rs⟩ w8 ⟨hi, hrl, hrf, hH⟩
 refine swk [(3, .slice A4 es.length c5), (12, Ni es.length), (13, Ni i)] ?_
 refine sw_sr ?_
 refine glo 1 [(3, .slice A4 es.length c5), (12, Ni es.length), (13, Ni i), (14, .bool (decide (((i : Nat) : Int) < ((es.length : Nat) : Int))))] ?_
 refine gl_dn rfl ?_
 refine sw_seq ?_
 refine sw_cond rfl rfl (fun hc1 => ?_) (fun hc1 => ?_)
 ·
  try simp only [decide_eq_true_eq] at hc1
  refine sw_skip ?_
  refine sw_next ?_
  refine sw_seq ?_
  refine sw_block ?_
  refine sw_sr ?_
  refine glo 2 [(3, .slice A4 es.length c5), (4, Ni i), (12, Ni es.length), (13, Ni i)] ?_
  refine gl_dn rfl ?_
  obtain ⟨⟨ex, vx⟩, hq⟩ : ∃ q, es[i]? = some q := ⟨_, List.getElem?_eq_getElem (by omega)⟩
  have kq : RB w.cell? vx ex.d := hD _ (List.mem_of_getElem? hq)
  obtain ⟨Ad, cd, rfl, _, _⟩ := kq.row.form
  have hdl2 := hdl _ (List.mem_of_getElem? hq)
  simp only at hdl2
  refine sw_region ?_
  obtain ⟨b10, hb9, hi11⟩ := hH.row_idx 0 rfl i (by omega)
  refine glo 4 [(3, .slice A4 es.length c5), (12, Ni es.length), (13, Ni i), (16, .slice A4 es.length c5), (17, Ni i), (18, .slice A4 es.length c5), (19, Ni i)] ?_
  refine gl_q rfl rfl rfl (rd_idx (e := 64) (m := 4) (by kernel_rfl) (by kernel_rfl) rfl rfl hi11) ?_
  refine glo 1 [(3, .slice A4 es.length c5), (12, Ni es.length), (13, Ni i), (16, .slice A4 es.length c5), (17, Ni i), (21, Pp b10 (i * 4 + 3))] ?_
  refine gl_q rfl rfl rfl (rd_loadO 0 (by kernel_rfl) hH rfl rfl hb9 (rowC_at enC_len (en_get hrl hq) 3 (by decide) rfl)) ?_
  refine gl_st (st_call rfl rfl rfl (by kernel_rfl) rfl (SClone_ct _ ex.d _ (kq.mono hH.zin) (by omega)) ?_)
  rintro _ w14 ⟨v12, rfl, hF15⟩
  replace hH := hH.call hF15; clear hF15
  obtain ⟨A16, c17, rfl, hl18, hm19⟩ := hH.row_form 2 rfl
  obtain ⟨b21, hb20, hi22⟩ := hH.row_idx 0 rfl i (by omega)
  refine gl_q rfl rfl rfl (rd_idx (e := 64) (m := 4) (by kernel_rfl) (by kernel_rfl) rfl rfl hi22) ?_
  refine glo 1 [(3, .slice A4 es.length c5), (12, Ni es.length), (13, Ni i), (23, .slice A16 ex.d.length c17), (25, Pp b21 (i * 4 + 3))] ?_
  refine gl_st (st_storeO (u := .slice A16 ex.d.length c17) 0 rfl rfl rfl hH rfl rfl rfl (by kernel_rfl) rfl hb20 (by rw [rowC_len enC_len, List.length_append, List.length_drop]; omega) ?_)
  clear hH; intro w23 hH
  replace hH := hH.row_eq 0 (l' := es.length) (xs' := rowC enC ((rs ++ [(ex, Value.slice A16 ex.d.length c17)]) ++ es.drop (i + 1))) rfl (rfl) (en_setd hrl hq _)
  replace hH := hH.fr3.fr3
  replace hH := hH.merge
  replace hH := hH.cast (os' := [enRows (rs ++ [(ex, Value.slice A16 ex.d.length c17)]), .row (.slice A4 es.length c5) 64 4 es.length (rowC enC ((rs ++ [(ex, Value.slice A16 ex.d.length c17)]) ++ es.drop (i + 1)))]) (by simp [enRows, enRow])
  refine gl_done rfl ?_
  refine bkN ?_
  refine sw_next ?_
  refine sw_region ?_
  refine glo 1 [(3, .slice A4 es.length c5), (12, Ni es.length), (26, .int .i64 (IntKind.i64.wrap (((i : Nat) : Int) + 1)))] ?_
  refine gl_cv 26 (Ni (i + 1)) (cv_i64 (by omega)) rfl ?_
  refine glo 1 [(3, .slice A4 es.length c5), (12, Ni es.length), (13, Ni (i + 1))] ?_
  refine gl_done rfl ?_
  refine rnd_end (g := (i, rs)) (i + 1, rs ++ [(ex, Value.slice A16 ex.d.length c17)]) (by kernel_rfl) ?_ ?_
  replace hH := hH.fr2
  replace hH : Hp w w23 _ _ [_, _] := (hH.sublist (slk (slk sln)))
  · exact ⟨by omega, by rw [List.length_append, hrl]; rfl, by rw [List.map_append, hrf, List.map_singleton]; exact (tk_next hq).symm, hH⟩
  · show es.length - (i + 1) < es.length - i; omega
 try simp only [decide_eq_false_iff_not, Int.not_lt, Int.not_le] at hc1
 refine sw_exit ?_
 refine thX ?_
 refine thX ?_
 refine bkH ?_
 refine sw_next ?_
 refine sw_sr ?_
 refine glo 2 [(2, .slice A4 es.length c5)] ?_
 refine gl_dn rfl ?_
 refine sw_ret ?_
 refine ret1 rfl rfl  ?_
 replace hH : Hp w w8 _ _ [_, _] := (hH.sublist (slk (slk sln)))
 have hie : i = es.length := by omega
 have hrl2 : rs.length = es.length := by omega
 rw [hie, List.drop_length, List.append_nil] at hH
 rw [hie, List.take_of_length_le (by simp)] at hrf
 exact ⟨_, rs, rfl, hrf, (hH.cast (by rw [hrl2])).fresh⟩
theorem What_ct (g : Nat) (c : Cn) (ve : Value) (es : EQ) (w : World) (h1 : w.cell? ⟨g, 1, none⟩ = some (.int .i64 ((c.term : Nat) : Int))) (h2 : w.cell? ⟨g, 2, none⟩ = some (.int .i64 ((c.vote : Nat) : Int))) (h3 : w.cell? ⟨g, 3, none⟩ = some (.int .i64 ((c.ix : Nat) : Int))) (h4 : w.cell? ⟨g, 4, none⟩ = some (.int .i64 ((c.ah : Nat) : Int))) (h5 : w.cell? ⟨g, 5, none⟩ = some ve) (hE : Row w.cell? ve 4 es.length (rowC enC es)) (hD : ∀ q ∈ es, RB w.cell? q.2 q.1.d) (hdl : ∀ q ∈ es, q.1.d.length ≤ 1048576) (hl : es.length ≤ 1048576) :
    Fun Tryz.prog 18 [.pointer (some ⟨g, 0, none⟩)] w fun v w' => ∃ v1 v2 rs, v = .tuple #[v1, v2] ∧ rs.map (·.1) = es.map (·.1) ∧ Fresh w w' [.row v1 3 1 4 [.int .i64 ((c.term : Nat) : Int), .int .i64 ((c.vote : Nat) : Int), .int .i64 ((c.ix : Nat) : Int), .int .i64 ((c.ah : Nat) : Int)], .row v2 64 4 rs.length (rowC enC rs), enRows rs] := by
 refine fun_of_sw Tryz.func18 rfl 25 rfl rfl ?_
 have hH := Hp.start w
 refine sw_sr ?_
 refine glo 2 [(0, .pointer (some ⟨g, 0, none⟩))] ?_
 refine gl_dn rfl ?_
 refine sw_sr ?_
 refine glo 1 [(0, .pointer (some ⟨g, 0, none⟩)), (9, .pointer (some ⟨g, 0, none⟩))] ?_
 refine gl_st (st_call rfl rfl rfl (by kernel_rfl) rfl (State_ct g c.term c.vote _ (hH.zin _ _ h1) (hH.zin _ _ h2)) ?_)
 rintro _ w1 ⟨rfl, hF2⟩
 replace hH := hH.call hF2; clear hF2
 refine glo 5 [(0, .pointer (some ⟨g, 0, none⟩)), (4, Ni c.term), (5, Ni c.vote)] ?_
 refine gl_dn rfl ?_
 refine sw_sr ?_
 refine glo 1 [(0, .pointer (some ⟨g, 0, none⟩)), (4, Ni c.term), (5, Ni c.vote), (14, .pointer (some ⟨g, 0, none⟩))] ?_
 refine gl_st (st_call rfl rfl rfl (by kernel_rfl) rfl (Base_ct g c.ix c.ah _ (hH.zin _ _ h3) (hH.zin _ _ h4)) ?_)
 rintro _ w3 ⟨rfl, hF4⟩
 replace hH := hH.call hF4; clear hF4
 refine glo 5 [(0, .pointer (some ⟨g, 0, none⟩)), (4, Ni c.term), (5, Ni c.vote), (6, Ni c.ix), (7, Ni c.ah)] ?_
 refine gl_dn rfl ?_
 refine sw_sr ?_
 refine glo 4 [(0, .pointer (some ⟨g, 0, none⟩)), (18, Ni c.term), (19, Ni c.vote), (20, Ni c.ix), (21, Ni c.ah)] ?_
 refine gl_st (st_buildS (e := 3) (zv := .int .i64 0) (m := 1) (bytes := 8) rfl rfl rfl (by kernel_rfl) (by kernel_rfl) rfl (cs := [Ni c.term, Ni c.vote, Ni c.ix, Ni c.ah]) (by kernel_rfl) rfl hH ?_)
 clear hH; intro b5 w6 hH
 refine glo 1 [(22, .slice (some ⟨b5, 0, none⟩) 4 4), (23, .pointer (some ⟨g, 0, none⟩))] ?_
 refine gl_st (st_call rfl rfl rfl (by kernel_rfl) rfl (Entries_ct g _ es _ (hH.zin _ _ h5) (hE.mono hH.zin) (fun q hq => (hD q hq).mono hH.zin) hdl hl) ?_)
 rintro _ w7 ⟨v9, rs, rfl, hrs, hF8⟩
 replace hH := hH.call hF8; clear hF8
 obtain ⟨A9, c10, rfl, hl11, hm12⟩ := hH.row_form 1 rfl
 refine glo 2 [(2, .slice (some ⟨b5, 0, none⟩) 4 4), (3, .slice A9 rs.length c10)] ?_
 refine gl_dn rfl ?_
 refine sw_ret ?_
 refine ret2 rfl rfl rfl  ?_
 exact ⟨_, _, rs, rfl, hrs, hH.fresh⟩
theorem Alike_ct (va vl vb vm : Value) (a0 a1 a2 a3 b0 b1 b2 b3 : Int) (qs rs : EI) (w : World) (ha : Row w.cell? va 1 4 [.int .i64 a0, .int .i64 a1, .int .i64 a2, .int .i64 a3]) (hl : Row w.cell? vl 4 qs.length (rowC eiC qs)) (hb : Row w.cell? vb 1 4 [.int .i64 b0, .int .i64 b1, .int .i64 b2, .int .i64 b3]) (hm : Row w.cell? vm 4 rs.length (rowC eiC rs)) (hqa : ∀ q ∈ qs, RB w.cell? q.2 q.1.d) (hqb : ∀ q ∈ rs, RB w.cell? q.2 q.1.d) :
    Fun Tryz.prog 20 [va, vl, vb, vm] w fun v w' => ∃ b, v = .bool b ∧ (b = true ↔ (a0 = b0 ∧ a1 = b1 ∧ a2 = b2 ∧ a3 = b3) ∧ qs.map (·.1) = rs.map (·.1)) ∧ Fresh w w' [] := by
 obtain ⟨Aa, ca, rfl, _, _⟩ := ha.form
 obtain ⟨Al, cl, rfl, _, _⟩ := hl.form
 obtain ⟨Ab, cb, rfl, _, _⟩ := hb.form
 obtain ⟨Am, cm, rfl, _, _⟩ := hm.form
 refine fun_of_sw Tryz.func20 rfl 26 rfl rfl ?_
 have hH := Hp.start w
 refine sw_sr ?_
 refine glo 1 [(0, .slice Aa 4 ca), (1, .slice Al qs.length cl), (2, .slice Ab 4 cb), (3, .slice Am rs.length cm)] ?_
 refine gl_dn rfl ?_
 refine sw_seq ?_
 refine sw_sr ?_
 refine glo 1 [(0, .slice Aa 4 ca), (1, .slice Al qs.length cl), (2, .slice Ab 4 cb), (3, .slice Am rs.length cm), (9, .int .i64 0)] ?_
 refine gl_dn rfl ?_
 refine sw_block ?_
 refine sw_unroll ?_
 refine sw_seq ?_
 refine sw_sr ?_
 refine glo 2 [(0, .slice Aa 4 ca), (1, .slice Al qs.length cl), (2, .slice Ab 4 cb), (3, .slice Am rs.length cm), (9, .int .i64 0), (11, .bool true)] ?_
 refine gl_dn rfl ?_
 refine sw_true rfl rfl ?_
 refine sw_skip ?_
 refine sw_next ?_
 refine sw_seq ?_
 refine sw_block ?_
 refine sw_seq ?_
 refine sw_draw (by kernel_rfl) (fun w_ => Hp w w_ (w.cell?) [] []) ?_
 replace hH := hH.drew
 generalize { w with drawn := w.drawn + 1 } = w1 at hH ⊢
 have hS9 := hH.sublist sln
 obtain ⟨p2, hi4, hp3⟩ := ha.idx 0 (by omega) (by decide)
 refine gdo 2 [0,1] [(0, .slice Aa 4 ca), (1, .slice Al qs.length cl), (2, .slice Ab 4 cb), (3, .slice Am rs.length cm), (9, .int .i64 0), (14, .slice Aa 4 ca), (15, .int .i64 0)] hS9 (PQ.th (PQ.bk (PQ.th (PQ.th (PQ.bk (PQ.th PQ.body)))))) ?_
 refine gdq 2 rfl (fun w_ hS => (rd_idx (e := 3) (m := 1) (by kernel_rfl) (by kernel_rfl) rfl rfl hi4)) hS9 (PQ.th (PQ.bk (PQ.th (PQ.th (PQ.bk (PQ.th PQ.body)))))) ?_
 refine gdq 3 rfl (fun w_ hS => (rd_load (by kernel_rfl) rfl (hS.zin _ _ (hp3 0 _ (by decide) rfl)))) hS9 (PQ.th (PQ.bk (PQ.th (PQ.th (PQ.bk (PQ.th PQ.body)))))) ?_
 obtain ⟨p5, hi7, hp6⟩ := hb.idx 0 (by omega) (by decide)
 refine gdo 2 [4,5] [(0, .slice Aa 4 ca), (1, .slice Al qs.length cl), (2, .slice Ab 4 cb), (3, .slice Am rs.length cm), (9, .int .i64 0), (17, .int .i64 a0), (18, .slice Ab 4 cb), (19, .int .i64 0)] hS9 (PQ.th (PQ.bk (PQ.th (PQ.th (PQ.bk (PQ.th PQ.body)))))) ?_
 refine gdq 6 rfl (fun w_ hS => (rd_idx (e := 3) (m := 1) (by kernel_rfl) (by kernel_rfl) rfl rfl hi7)) hS9 (PQ.th (PQ.bk (PQ.th (PQ.th (PQ.bk (PQ.th PQ.body)))))) ?_
 refine gdq 7 rfl (fun w_ hS => (rd_load (by kernel_rfl) rfl (hS.zin _ _ (hp6 0 _ (by decide) rfl)))) hS9 (PQ.th (PQ.bk (PQ.th (PQ.th (PQ.bk (PQ.th PQ.body)))))) ?_
 refine gdo 1 [8] [(0, .slice Aa 4 ca), (1, .slice Al qs.length cl), (2, .slice Ab 4 cb), (3, .slice Am rs.length cm), (9, .int .i64 0), (22, .bool ((a0 : Int) != (b0 : Int)))] hS9 (PQ.th (PQ.bk (PQ.th (PQ.th (PQ.bk (PQ.th PQ.body)))))) ?_
 refine gdn [(0, .slice Aa 4 ca), (1, .slice Al qs.length cl), (2, .slice Ab 4 cb), (3, .slice Am rs.length cm), (9, .int .i64 0), (22, .bool ((a0 : Int) != (b0 : Int)))] ?_
 refine sw_next ?_
 refine sw_cond rfl rfl (fun hc2 => ?_) (fun hc2 => ?_)
 ·
  try simp only [bne_iff_ne, ne_eq] at hc2
  refine sw_sr ?_
  refine glo 1 [(8, .bool false)] ?_
  refine gl_dn rfl ?_
  refine sw_ret ?_
  refine bkR ?_
  refine thR ?_
  refine thR ?_
  refine bkR ?_
  refine thR ?_
  refine ret1 rfl rfl  ?_
  exact ⟨false, rfl, ⟨fun h => Bool.noConfusion h, fun h => by obtain ⟨⟨_, _, _, _⟩, _⟩ := h; omega⟩, (hH.sublist sln).fresh⟩
 try simp only [bne_eq_false_iff_eq] at hc2
 refine sw_skip ?_
 refine bkN ?_
 refine sw_next ?_
 refine sw_region ?_
 refine glo 2 [(0, .slice Aa 4 ca), (1, .slice Al qs.length cl), (2, .slice Ab 4 cb), (3, .slice Am rs.length cm), (13, .int .i64 (IntKind.i64.wrap (0 + 1)))] ?_
 refine gl_cv 13 (.int .i64 1) (cv_i64 (by omega)) rfl ?_
 refine glo 1 [(0, .slice Aa 4 ca), (1, .slice Al qs.length cl), (2, .slice Ab 4 cb), (3, .slice Am rs.length cm), (9, .int .i64 1)] ?_
 refine gl_done rfl ?_
 refine sw_again ?_
 refine swk [(0, .slice Aa 4 ca), (1, .slice Al qs.length cl), (2, .slice Ab 4 cb), (3, .slice Am rs.length cm), (9, .int .i64 1)] ?_
 refine sw_seq ?_
 refine sw_sr ?_
 refine glo 2 [(0, .slice Aa 4 ca), (1, .slice Al qs.length cl), (2, .slice Ab 4 cb), (3, .slice Am rs.length cm), (9, .int .i64 1), (11, .bool true)] ?_
 refine gl_dn rfl ?_
 refine sw_true rfl rfl ?_
 refine sw_skip ?_
 refine sw_next ?_
 refine sw_seq ?_
 refine sw_block ?_
 refine sw_seq ?_
 refine sw_draw (by kernel_rfl) (fun w_ => Hp w w_ (w.cell?) [] []) ?_
 replace hH := hH.drew
 generalize { w1 with drawn := w1.drawn + 1 } = w8 at hH ⊢
 have hS9 := hH.sublist sln
 obtain ⟨p9, hi11, hp10⟩ := ha.idx 1 (by omega) (by decide)
 refine gdo 2 [0,1] [(0, .slice Aa 4 ca), (1, .slice Al qs.length cl), (2, .slice Ab 4 cb), (3, .slice Am rs.length cm), (9, .int .i64 1), (14, .slice Aa 4 ca), (15, .int .i64 1)] hS9 (PQ.th (PQ.bk (PQ.th (PQ.th (PQ.bk (PQ.th PQ.body)))))) ?_
 refine gdq 2 rfl (fun w_ hS => (rd_idx (e := 3) (m := 1) (by kernel_rfl) (by kernel_rfl) rfl rfl hi11)) hS9 (PQ.th (PQ.bk (PQ.th (PQ.th (PQ.bk (PQ.th PQ.body)))))) ?_
 refine gdq 3 rfl (fun w_ hS => (rd_load (by kernel_rfl) rfl (hS.zin _ _ (hp10 0 _ (by decide) rfl)))) hS9 (PQ.th (PQ.bk (PQ.th (PQ.th (PQ.bk (PQ.th PQ.body)))))) ?_
 obtain ⟨p12, hi14, hp13⟩ := hb.idx 1 (by omega) (by decide)
 refine gdo 2 [4,5] [(0, .slice Aa 4 ca), (1, .slice Al qs.length cl), (2, .slice Ab 4 cb), (3, .slice Am rs.length cm), (9, .int .i64 1), (17, .int .i64 a1), (18, .slice Ab 4 cb), (19, .int .i64 1)] hS9 (PQ.th (PQ.bk (PQ.th (PQ.th (PQ.bk (PQ.th PQ.body)))))) ?_
 refine gdq 6 rfl (fun w_ hS => (rd_idx (e := 3) (m := 1) (by kernel_rfl) (by kernel_rfl) rfl rfl hi14)) hS9 (PQ.th (PQ.bk (PQ.th (PQ.th (PQ.bk (PQ.th PQ.body)))))) ?_
 refine gdq 7 rfl (fun w_ hS => (rd_load (by kernel_rfl) rfl (hS.zin _ _ (hp13 0 _ (by decide) rfl)))) hS9 (PQ.th (PQ.bk (PQ.th (PQ.th (PQ.bk (PQ.th PQ.body)))))) ?_
 refine gdo 1 [8] [(0, .slice Aa 4 ca), (1, .slice Al qs.length cl), (2, .slice Ab 4 cb), (3, .slice Am rs.length cm), (9, .int .i64 1), (22, .bool ((a1 : Int) != (b1 : Int)))] hS9 (PQ.th (PQ.bk (PQ.th (PQ.th (PQ.bk (PQ.th PQ.body)))))) ?_
 refine gdn [(0, .slice Aa 4 ca), (1, .slice Al qs.length cl), (2, .slice Ab 4 cb), (3, .slice Am rs.length cm), (9, .int .i64 1), (22, .bool ((a1 : Int) != (b1 : Int)))] ?_
 refine sw_next ?_
 refine sw_cond rfl rfl (fun hc4 => ?_) (fun hc4 => ?_)
 ·
  try simp only [bne_iff_ne, ne_eq] at hc4
  refine sw_sr ?_
  refine glo 1 [(8, .bool false)] ?_
  refine gl_dn rfl ?_
  refine sw_ret ?_
  refine bkR ?_
  refine thR ?_
  refine thR ?_
  refine bkR ?_
  refine thR ?_
  refine ret1 rfl rfl  ?_
  exact ⟨false, rfl, ⟨fun h => Bool.noConfusion h, fun h => by obtain ⟨⟨_, _, _, _⟩, _⟩ := h; omega⟩, (hH.sublist sln).fresh⟩
 try simp only [bne_eq_false_iff_eq] at hc4
 refine sw_skip ?_
 refine bkN ?_
 refine sw_next ?_
 refine sw_region ?_
 refine glo 2 [(0, .slice Aa 4 ca), (1, .slice Al qs.length cl), (2, .slice Ab 4 cb), (3, .slice Am rs.length cm), (13, .int .i64 (IntKind.i64.wrap (1 + 1)))] ?_
 refine gl_cv 13 (.int .i64 2) (cv_i64 (by omega)) rfl ?_
 refine glo 1 [(0, .slice Aa 4 ca), (1, .slice Al qs.length cl), (2, .slice Ab 4 cb), (3, .slice Am rs.length cm), (9, .int .i64 2)] ?_
 refine gl_done rfl ?_
 refine sw_again ?_
 refine swk [(0, .slice Aa 4 ca), (1, .slice Al qs.length cl), (2, .slice Ab 4 cb), (3, .slice Am rs.length cm), (9, .int .i64 2)] ?_
 refine sw_seq ?_
 refine sw_sr ?_
 refine glo 2 [(0, .slice Aa 4 ca), (1, .slice Al qs.length cl), (2, .slice Ab 4 cb), (3, .slice Am rs.length cm), (9, .int .i64 2), (11, .bool true)] ?_
 refine gl_dn rfl ?_
 refine sw_true rfl rfl ?_
 refine sw_skip ?_
 refine sw_next ?_
 refine sw_seq ?_
 refine sw_block ?_
 refine sw_seq ?_
 refine sw_draw (by kernel_rfl) (fun w_ => Hp w w_ (w.cell?) [] []) ?_
 replace hH := hH.drew
 generalize { w8 with drawn := w8.drawn + 1 } = w15 at hH ⊢
 have hS9 := hH.sublist sln
 obtain ⟨p16, hi18, hp17⟩ := ha.idx 2 (by omega) (by decide)
 refine gdo 2 [0,1] [(0, .slice Aa 4 ca), (1, .slice Al qs.length cl), (2, .slice Ab 4 cb), (3, .slice Am rs.length cm), (9, .int .i64 2), (14, .slice Aa 4 ca), (15, .int .i64 2)] hS9 (PQ.th (PQ.bk (PQ.th (PQ.th (PQ.bk (PQ.th PQ.body)))))) ?_
 refine gdq 2 rfl (fun w_ hS => (rd_idx (e := 3) (m := 1) (by kernel_rfl) (by kernel_rfl) rfl rfl hi18)) hS9 (PQ.th (PQ.bk (PQ.th (PQ.th (PQ.bk (PQ.th PQ.body)))))) ?_
 refine gdq 3 rfl (fun w_ hS => (rd_load (by kernel_rfl) rfl (hS.zin _ _ (hp17 0 _ (by decide) rfl)))) hS9 (PQ.th (PQ.bk (PQ.th (PQ.th (PQ.bk (PQ.th PQ.body)))))) ?_
 obtain ⟨p19, hi21, hp20⟩ := hb.idx 2 (by omega) (by decide)
 refine gdo 2 [4,5] [(0, .slice Aa 4 ca), (1, .slice Al qs.length cl), (2, .slice Ab 4 cb), (3, .slice Am rs.length cm), (9, .int .i64 2), (17, .int .i64 a2), (18, .slice Ab 4 cb), (19, .int .i64 2)] hS9 (PQ.th (PQ.bk (PQ.th (PQ.th (PQ.bk (PQ.th PQ.body)))))) ?_
 refine gdq 6 rfl (fun w_ hS => (rd_idx (e := 3) (m := 1) (by kernel_rfl) (by kernel_rfl) rfl rfl hi21)) hS9 (PQ.th (PQ.bk (PQ.th (PQ.th (PQ.bk (PQ.th PQ.body)))))) ?_
 refine gdq 7 rfl (fun w_ hS => (rd_load (by kernel_rfl) rfl (hS.zin _ _ (hp20 0 _ (by decide) rfl)))) hS9 (PQ.th (PQ.bk (PQ.th (PQ.th (PQ.bk (PQ.th PQ.body)))))) ?_
 refine gdo 1 [8] [(0, .slice Aa 4 ca), (1, .slice Al qs.length cl), (2, .slice Ab 4 cb), (3, .slice Am rs.length cm), (9, .int .i64 2), (22, .bool ((a2 : Int) != (b2 : Int)))] hS9 (PQ.th (PQ.bk (PQ.th (PQ.th (PQ.bk (PQ.th PQ.body)))))) ?_
 refine gdn [(0, .slice Aa 4 ca), (1, .slice Al qs.length cl), (2, .slice Ab 4 cb), (3, .slice Am rs.length cm), (9, .int .i64 2), (22, .bool ((a2 : Int) != (b2 : Int)))] ?_
 refine sw_next ?_
 refine sw_cond rfl rfl (fun hc6 => ?_) (fun hc6 => ?_)
 ·
  try simp only [bne_iff_ne, ne_eq] at hc6
  refine sw_sr ?_
  refine glo 1 [(8, .bool false)] ?_
  refine gl_dn rfl ?_
  refine sw_ret ?_
  refine bkR ?_
  refine thR ?_
  refine thR ?_
  refine bkR ?_
  refine thR ?_
  refine ret1 rfl rfl  ?_
  exact ⟨false, rfl, ⟨fun h => Bool.noConfusion h, fun h => by obtain ⟨⟨_, _, _, _⟩, _⟩ := h; omega⟩, (hH.sublist sln).fresh⟩
 try simp only [bne_eq_false_iff_eq] at hc6
 refine sw_skip ?_
 refine bkN ?_
 refine sw_next ?_
 refine sw_region ?_
 refine glo 2 [(0, .slice Aa 4 ca), (1, .slice Al qs.length cl), (2, .slice Ab 4 cb), (3, .slice Am rs.length cm), (13, .int .i64 (IntKind.i64.wrap (2 + 1)))] ?_
 refine gl_cv 13 (.int .i64 3) (cv_i64 (by omega)) rfl ?_
 refine glo 1 [(0, .slice Aa 4 ca), (1, .slice Al qs.length cl), (2, .slice Ab 4 cb), (3, .slice Am rs.length cm), (9, .int .i64 3)] ?_
 refine gl_done rfl ?_
 refine sw_again ?_
 refine swk [(0, .slice Aa 4 ca), (1, .slice Al qs.length cl), (2, .slice Ab 4 cb), (3, .slice Am rs.length cm), (9, .int .i64 3)] ?_
 refine sw_seq ?_
 refine sw_sr ?_
 refine glo 2 [(0, .slice Aa 4 ca), (1, .slice Al qs.length cl), (2, .slice Ab 4 cb), (3, .slice Am rs.length cm), (9, .int .i64 3), (11, .bool true)] ?_
 refine gl_dn rfl ?_
 refine sw_true rfl rfl ?_
 refine sw_skip ?_
 refine sw_next ?_
 refine sw_seq ?_
 refine sw_block ?_
 refine sw_seq ?_
 refine sw_draw (by kernel_rfl) (fun w_ => Hp w w_ (w.cell?) [] []) ?_
 replace hH := hH.drew
 generalize { w15 with drawn := w15.drawn + 1 } = w22 at hH ⊢
 have hS9 := hH.sublist sln
 obtain ⟨p23, hi25, hp24⟩ := ha.idx 3 (by omega) (by decide)
 refine gdo 2 [0,1] [(0, .slice Aa 4 ca), (1, .slice Al qs.length cl), (2, .slice Ab 4 cb), (3, .slice Am rs.length cm), (9, .int .i64 3), (14, .slice Aa 4 ca), (15, .int .i64 3)] hS9 (PQ.th (PQ.bk (PQ.th (PQ.th (PQ.bk (PQ.th PQ.body)))))) ?_
 refine gdq 2 rfl (fun w_ hS => (rd_idx (e := 3) (m := 1) (by kernel_rfl) (by kernel_rfl) rfl rfl hi25)) hS9 (PQ.th (PQ.bk (PQ.th (PQ.th (PQ.bk (PQ.th PQ.body)))))) ?_
 refine gdq 3 rfl (fun w_ hS => (rd_load (by kernel_rfl) rfl (hS.zin _ _ (hp24 0 _ (by decide) rfl)))) hS9 (PQ.th (PQ.bk (PQ.th (PQ.th (PQ.bk (PQ.th PQ.body)))))) ?_
 obtain ⟨p26, hi28, hp27⟩ := hb.idx 3 (by omega) (by decide)
 refine gdo 2 [4,5] [(0, .slice Aa 4 ca), (1, .slice Al qs.length cl), (2, .slice Ab 4 cb), (3, .slice Am rs.length cm), (9, .int .i64 3), (17, .int .i64 a3), (18, .slice Ab 4 cb), (19, .int .i64 3)] hS9 (PQ.th (PQ.bk (PQ.th (PQ.th (PQ.bk (PQ.th PQ.body)))))) ?_
 refine gdq 6 rfl (fun w_ hS => (rd_idx (e := 3) (m := 1) (by kernel_rfl) (by kernel_rfl) rfl rfl hi28)) hS9 (PQ.th (PQ.bk (PQ.th (PQ.th (PQ.bk (PQ.th PQ.body)))))) ?_
 refine gdq 7 rfl (fun w_ hS => (rd_load (by kernel_rfl) rfl (hS.zin _ _ (hp27 0 _ (by decide) rfl)))) hS9 (PQ.th (PQ.bk (PQ.th (PQ.th (PQ.bk (PQ.th PQ.body)))))) ?_
 refine gdo 1 [8] [(0, .slice Aa 4 ca), (1, .slice Al qs.length cl), (2, .slice Ab 4 cb), (3, .slice Am rs.length cm), (9, .int .i64 3), (22, .bool ((a3 : Int) != (b3 : Int)))] hS9 (PQ.th (PQ.bk (PQ.th (PQ.th (PQ.bk (PQ.th PQ.body)))))) ?_
 refine gdn [(0, .slice Aa 4 ca), (1, .slice Al qs.length cl), (2, .slice Ab 4 cb), (3, .slice Am rs.length cm), (9, .int .i64 3), (22, .bool ((a3 : Int) != (b3 : Int)))] ?_
 refine sw_next ?_
 refine sw_cond rfl rfl (fun hc8 => ?_) (fun hc8 => ?_)
 ·
  try simp only [bne_iff_ne, ne_eq] at hc8
  refine sw_sr ?_
  refine glo 1 [(8, .bool false)] ?_
  refine gl_dn rfl ?_
  refine sw_ret ?_
  refine bkR ?_
  refine thR ?_
  refine thR ?_
  refine bkR ?_
  refine thR ?_
  refine ret1 rfl rfl  ?_
  exact ⟨false, rfl, ⟨fun h => Bool.noConfusion h, fun h => by obtain ⟨⟨_, _, _, _⟩, _⟩ := h; omega⟩, (hH.sublist sln).fresh⟩
 try simp only [bne_eq_false_iff_eq] at hc8
 refine sw_skip ?_
 refine bkN ?_
 refine sw_next ?_
 refine sw_region ?_
 refine glo 2 [(0, .slice Aa 4 ca), (1, .slice Al qs.length cl), (2, .slice Ab 4 cb), (3, .slice Am rs.length cm), (13, .int .i64 (IntKind.i64.wrap (3 + 1)))] ?_
 refine gl_cv 13 (.int .i64 4) (cv_i64 (by omega)) rfl ?_
 refine glo 1 [(0, .slice Aa 4 ca), (1, .slice Al qs.length cl), (2, .slice Ab 4 cb), (3, .slice Am rs.length cm), (9, .int .i64 4)] ?_
 refine gl_done rfl ?_
 refine sw_again ?_
 refine swk [(0, .slice Aa 4 ca), (1, .slice Al qs.length cl), (2, .slice Ab 4 cb), (3, .slice Am rs.length cm), (9, .int .i64 4)] ?_
 refine sw_seq ?_
 refine sw_sr ?_
 refine glo 2 [(0, .slice Aa 4 ca), (1, .slice Al qs.length cl), (2, .slice Ab 4 cb), (3, .slice Am rs.length cm), (9, .int .i64 4), (11, .bool false)] ?_
 refine gl_dn rfl ?_
 refine sw_false rfl rfl ?_
 refine sw_exit ?_
 refine thX ?_
 refine thX ?_
 refine bkH ?_
 refine sw_next ?_
 refine sw_sr ?_
 refine glo 2 [(23, .slice Al qs.length cl), (24, .slice Am rs.length cm)] ?_
 refine gl_st (st_call rfl rfl rfl (by kernel_rfl) rfl (Same19_ct _ _ qs rs _ (hl.mono hH.zin) (hm.mono hH.zin) (fun q hq => (hqa q hq).mono hH.zin) (fun q hq => (hqb q hq).mono hH.zin)) ?_)
 rintro _ w29 ⟨bb, rfl, hbb, hF30⟩
 replace hH := hH.call hF30; clear hF30
 refine glo 1 [(8, .bool bb)] ?_
 refine gl_dn rfl ?_
 refine sw_ret ?_
 refine ret1 rfl rfl  ?_
 exact ⟨bb, rfl, by rw [hbb]; exact ⟨fun h => ⟨⟨by omega, by omega, by omega, by omega⟩, h⟩, fun h => h.2⟩, (hH.sublist sln).fresh⟩
end Go.Proofs.YtajapgjemefoiaaGreatDoor
