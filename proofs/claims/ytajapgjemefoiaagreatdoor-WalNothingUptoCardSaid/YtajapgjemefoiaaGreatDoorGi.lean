/- Gi: several texts in one. -/
import Derived.Test.YtajapgjemefoiaaGreatDoorGh
import Derived.Test.YtajapgjemefoiaaGreatDoorGb
import Derived.Test.YtajapgjemefoiaaGreatDoorGd
/- Layer 19 (wal): what holds of a disk with a log, act by act: sizes, numbers; letting entries go; starting and opening. Plain mathematics. -/
set_option linter.unusedVariables false
namespace Go.Proofs.YtajapgjemefoiaaGreatDoor
open Go.SW Go.RowKit
theorem recB_le (r : Rc) : (recB r).length ≤ 53 + r.d.length := by
  have h1 := numB_le r.k
  have h2 := numB_le r.a
  have h3 := numB_le r.b
  have h4 := numB_le r.c
  have h5 := numB_le r.d.length
  have h6 : (recP r).length ≤ 45 + r.d.length := by
    unfold recP blobB
    simp only [List.length_append]
    split
    · split
      · simp only [List.length_append, List.length_nil]; omega
      · simp only [List.length_append]; omega
    · simp only [List.length_nil]; omega
  unfold recB frameO
  split
  · simp
  · rw [frameB_length]; omega
def wE (es : List En) : Nat := (recsB (es.map enR)).length
theorem wE_app (a b : List En) : wE (a ++ b) = wE a + wE b := by unfold wE; rw [List.map_append, recsB_app, List.length_append]
theorem wE_take (es : List En) (k : Nat) : wE (es.take k) ≤ wE es := by
  have := wE_app (es.take k) (es.drop k)
  rw [List.take_append_drop] at this
  omega
theorem wE_drop (es : List En) (k : Nat) : wE (es.drop k) ≤ wE es := by
  have := wE_app (es.take k) (es.drop k)
  rw [List.take_append_drop] at this
  omega
theorem wE_one (e : En) : wE [e] ≤ 53 + e.d.length := by
  unfold wE
  have : recsB ([e].map enR) = recB (enR e) := by simp [recsB]
  rw [this]
  exact recB_le (enR e)
def wtA (es : List EA) : Nat := (es.map fun e => 5 + e.d.length).sum
theorem wtA_cons (e : EA) (es : List EA) : wtA (e :: es) = 5 + e.d.length + wtA es := by simp [wtA]
theorem putsA_w : ∀ {es : List EA} {c c' : Cn}, putsA c es = some c' → wE c'.es ≤ wE c.es + 11 * wtA es ∧ 5 * c'.es.length ≤ 5 * c.es.length + wtA es
  | [], c, c', h => by cases h; simp [wtA]
  | e :: es, c, c', h => by
    rw [putsA] at h
    split at h
    · cases h
    · obtain ⟨c1, h1, h2⟩ := Option.bind_eq_some_iff.1 h
      obtain ⟨a1, a2⟩ := putsA_w h2
      obtain ⟨_, _, rfl⟩ := putC_some h1
      simp only at a1 a2
      have h3 := wE_take c.es (e.en.ix - c.ix - 1)
      have h4 := wE_one e.en
      have h5 : e.en.d.length = e.d.length := rfl
      rw [wE_app] at a1
      rw [List.length_append, List.length_take, List.length_singleton] at a2
      rw [wtA_cons]
      constructor <;> omega
theorem wE_en : ∀ (es : List EA), wE (es.map EA.en) ≤ 11 * wtA es
  | [] => by simp [wE, recsB, wtA]
  | e :: es => by
    have h1 := wE_en es
    have h2 := wE_one e.en
    have h3 : e.en.d.length = e.d.length := rfl
    have h4 := wE_app [e.en] (es.map EA.en)
    rw [List.map_cons, wtA_cons]
    rw [List.singleton_append] at h4
    omega
theorem saveB_le (c : Cn) (T V : Nat) (es : List EA) : (saveB c T V (es.map EA.en)).length ≤ 53 + 11 * wtA es := by
  have h1 := wE_en es
  unfold saveB
  rw [List.length_append]
  have h2 : (if T ≠ c.term ∨ V ≠ c.vote then recB (stR T V) else []).length ≤ 53 := by
    split
    · exact recB_le (stR T V)
    · simp
  unfold wE at h1
  omega
theorem saveR_len (c : Cn) (T V : Nat) (es : List EA) : 5 * (saveR c T V (es.map EA.en)).length ≤ 5 + wtA es := by
  unfold saveR
  rw [List.length_append, List.length_map, List.length_map]
  have h1 : (if T ≠ c.term ∨ V ≠ c.vote then [stR T V] else []).length ≤ 1 := by split <;> simp
  have h2 : 5 * es.length ≤ wtA es := by
    induction es with
    | nil => simp
    | cons e es ih => rw [List.length_cons, wtA_cons]; omega
  omega
theorem keep_w (c : Cn) (i t : Nat) : wE (keepC c i t).es ≤ wE c.es := by
  unfold keepC
  simp only
  split
  · omega
  split
  · exact wE_drop _ _
  · simp [wE, recsB]
theorem allR_le (c : Cn) : (recsB (allR c)).length ≤ 106 + wE c.es := by
  have e : recsB (allR c) = recB (baR c.ix c.ah) ++ (recB (stR c.term c.vote) ++ recsB (c.es.map enR)) := rfl
  have h1 := recB_le (baR c.ix c.ah)
  have h2 := recB_le (stR c.term c.vote)
  rw [e, List.length_append, List.length_append]
  unfold wE
  simp only [baR, stR, List.length_nil] at h1 h2
  simp only [baR, stR]
  omega
theorem rem_segs : ∀ (segs : List (List Rc)) (lo : Nat) (D : Dsk) (G : List Fil), D.off = false → D.ar = none → Srt D.fs → D.fs.Perm (segFs lo segs ++ G) → (∀ g ∈ G, ∀ k, lo ≤ k → k < lo + segs.length → g.name ≠ nameF k) → lo + segs.length ≤ 1000000000 →
    ∃ F', remAll D ((segPs lo segs).map (·.k)) = ({ D with fs := F' }, 0) ∧ Srt F' ∧ F'.Perm G
  | [], lo, D, G, h1, h2, hS, hp, _, _ => ⟨D.fs, rfl, hS, by simpa [segFs] using hp⟩
  | rs :: ss, lo, D, G, h1, h2, hS, hp, hG, hf => by
    rw [List.length_cons] at hf
    have hm : (⟨nameF lo, recsB rs, (recsB rs).length⟩ : Fil) ∈ segFs lo (rs :: ss) ++ G := List.mem_append_left _ List.mem_cons_self
    have hg := getF_perm hS hp hm
    have r1 := doD_quiet (D := D) h2 (kind := 4) (nm := nameF lo) (p := []) (n := 0) (may_log_at h1 (by omega) hg) (fun h => absurd h.1 (by decide))
    have e1 : doF D.fs 4 (nameF lo) [] (0 : Int).toNat = delF D.fs (nameF lo) := rfl
    rw [e1] at r1
    have hd : (delF D.fs (nameF lo)).Perm (segFs (lo + 1) ss ++ G) := by
      refine (delF_perm hp _).trans ?_
      have e2 : delF (segFs lo (rs :: ss) ++ G) (nameF lo) = segFs (lo + 1) ss ++ G := by
        show delF (([⟨nameF lo, recsB rs, (recsB rs).length⟩] ++ segFs (lo + 1) ss) ++ G) (nameF lo) = _
        rw [delF_app, delF_app]
        have d1 : delF [(⟨nameF lo, recsB rs, (recsB rs).length⟩ : Fil)] (nameF lo) = [] := delF_self _
        have d2 : delF (segFs (lo + 1) ss) (nameF lo) = segFs (lo + 1) ss := delF_off fun f hf2 e => by
          obtain ⟨j, h3, h4⟩ := segFs_name ss (lo + 1) f hf2
          have := nameF_inj (h4.symm.trans e)
          omega
        have d3 : delF G (nameF lo) = G := delF_off fun g hg2 => hG g hg2 lo (Nat.le_refl _) (by simp)
        rw [d1, d2, d3, List.nil_append]
      rw [e2]
    obtain ⟨F', h5, h6, h7⟩ := rem_segs ss (lo + 1) { D with fs := delF D.fs (nameF lo) } G h1 h2 (srt_del hS _) hd (fun g hg2 k hk1 hk2 => hG g hg2 k (by omega) (by rw [List.length_cons]; omega)) (by omega)
    refine ⟨F', ?_, h6, h7⟩
    show remAll D (lo :: (segPs (lo + 1) ss).map (·.k)) = _
    rw [remAll_cons, r1, if_neg (fun h => h rfl)]
    exact h5
theorem ks_on {D : Dsk} {l : Lg} {lo : Nat} {segs : List (List Rc)} (h : LogOn D l lo segs) : ksOf D.fs = (segPs lo segs).map (·.k) := by
  obtain ⟨ps, h1, h2⟩ := parts_on h
  unfold ksOf
  rw [h1, Option.map_some, Option.getD_some, h2]
theorem segPs_k : ∀ (segs : List (List Rc)) (lo : Nat), ∀ p ∈ segPs lo segs, lo ≤ p.k ∧ p.k < lo + segs.length
  | [], _ => fun p h => by cases h
  | rs :: ss, lo => fun p h => by
    rw [List.length_cons]
    rcases List.mem_cons.1 h with rfl | h
    · simp only; omega
    · have := segPs_k ss (lo + 1) p h; omega
theorem allR_ok {c : Cn} (h : CnOk c) : ∀ r ∈ allR c, RcOk r := by
  intro r hr
  unfold allR at hr
  rcases List.mem_cons.1 hr with rfl | hr
  · exact baR_ok h.ix h.ah
  rcases List.mem_cons.1 hr with rfl | hr
  · exact stR_ok h.term h.vote
  · obtain ⟨e, he, rfl⟩ := List.mem_map.1 hr
    exact h.es e he
theorem ens_do : ∀ (es : List En) (c : Cn), (∀ (j : Nat) (e : En), es[j]? = some e → e.ix = c.ix + 1 + c.es.length + j) → doAll c (es.map enR) false = some { c with es := c.es ++ es }
  | [], c, _ => by
    show some c = _
    rw [List.append_nil]
  | e :: es, c, h => by
    have h0 := h 0 e rfl
    have hp : putC c e = some { c with es := c.es ++ [e] } := by
      unfold putC
      rw [if_neg (by omega), List.take_of_length_le (by omega)]
    have h1 : doC c (enR e) false = some { c with es := c.es ++ [e] } := by
      unfold doC
      rw [if_neg (by simp [enR]), if_pos (show (enR e).k = 2 from rfl)]
      exact hp
    have ih := ens_do es { c with es := c.es ++ [e] } (fun j x hx => by
      have := h (j + 1) x (by rw [List.getElem?_cons_succ]; exact hx)
      simp only [List.length_append, List.length_singleton]; omega)
    show (doC c (enR e) false).bind (fun c' => doAll c' (es.map enR) false) = _
    rw [h1]
    simp only [Option.bind_some]
    rw [ih]
    simp
theorem allR_do {c : Cn} (h : CnOk c) : doAll Cn.zero (allR c) true = some c := by
  unfold allR
  show (doC Cn.zero (baR c.ix c.ah) true).bind (fun c' => (doC c' (stR c.term c.vote) false).bind fun c' => doAll c' (c.es.map enR) false) = _
  have e1 : doC Cn.zero (baR c.ix c.ah) true = some ⟨0, 0, c.ix, c.ah, []⟩ := rfl
  have e2 : doC ⟨0, 0, c.ix, c.ah, []⟩ (stR c.term c.vote) false = some ⟨c.term, c.vote, c.ix, c.ah, []⟩ := rfl
  rw [e1]
  simp only [Option.bind_some]
  rw [e2]
  simp only [Option.bind_some]
  rw [ens_do c.es ⟨c.term, c.vote, c.ix, c.ah, []⟩ (fun j e he => by have := h.seq j e he; simp only [List.length_nil]; omega)]
  rfl
theorem one_on {D : Dsk} {c : Cn} {k : Nat} (h1 : D.off = false) (h2 : D.ar = none) (hS : Srt D.fs) (hp : D.fs.Perm [⟨nameF k, recsB (allR c), (recsB (allR c)).length⟩]) (hc : CnOk c) (hk : 0 < k) (hf : k ≤ 100000) : LogOn D ⟨c, k, (recsB (allR c)).length, 0⟩ k [allR c] := by
  refine ⟨h1, h2, hS, hp, fun rs hrs r hr => ?_, ⟨baR c.ix c.ah, _, [], rfl, rfl, fun s hs => by cases hs⟩, ?_, hk, rfl, hf, rfl, rfl⟩
  · rw [List.mem_singleton.1 hrs] at hr
    exact allR_ok hc r hr
  · rw [List.flatten_singleton]; exact allR_do hc
theorem compactL_quiet {D : Dsk} {l : Lg} {lo : Nat} {segs : List (List Rc)} (h : LogOn D l lo segs) (hfew : l.file < 100000) {i t : Int} (hi : i ≤ 9223372036854775807) (ht : t ≤ 9223372036854775807) :
    (∃ e, compactL D l i t = (D, l, e) ∧ (i < 0 ∨ t < 0)) ∨ ∃ D', compactL D l i t = (D', ⟨keepC l.c i.toNat t.toNat, l.file + 1, (recsB (allR (keepC l.c i.toNat t.toNat))).length, 0⟩, 0) ∧ LogOn D' ⟨keepC l.c i.toNat t.toNat, l.file + 1, (recsB (allR (keepC l.c i.toNat t.toNat))).length, 0⟩ (l.file + 1) [allR (keepC l.c i.toNat t.toNat)] := by
  by_cases hn : i < 0 ∨ t < 0
  · exact .inl ⟨1, compactL_neg h.bad hn, hn⟩
  refine .inr ?_
  obtain ⟨I, rfl⟩ : ∃ I : Nat, i = I := ⟨i.toNat, by omega⟩
  obtain ⟨T, rfl⟩ : ∃ T : Nat, t = T := ⟨t.toNat, by omega⟩
  rw [Int.toNat_natCast, Int.toNat_natCast]
  have hco := cnOk_keep h.cn (i := I) (t := T) (by omega) (by omega)
  generalize hc' : keepC l.c I T = c' at hco ⊢
  have hfile := h.file
  have hlo := h.lo0
  have r1 := doD_quiet (D := D) h.ar (kind := 2) (nm := nameF (l.file + 1)) (p := recsB (allR c')) (n := 0) (may_log h.off (by omega)) (fun h => absurd h.1 (by decide))
  rw [doF2] at r1
  have hp : (setF D.fs ⟨nameF (l.file + 1), recsB (allR c'), (recsB (allR c')).length⟩).Perm (segFs lo segs ++ [⟨nameF (l.file + 1), recsB (allR c'), (recsB (allR c')).length⟩]) :=
    set_last (o := []) h.srt (by rw [List.append_nil]; exact h.perm) (by simp) (by simp only; rw [hfile])
  obtain ⟨F', h5, h6, h7⟩ := rem_segs segs lo { D with fs := setF D.fs ⟨nameF (l.file + 1), recsB (allR c'), (recsB (allR c')).length⟩ } [⟨nameF (l.file + 1), recsB (allR c'), (recsB (allR c')).length⟩] h.off h.ar (srt_set h.srt _) hp (fun g hg k hk1 hk2 e => by
    rw [List.mem_singleton.1 hg] at e
    have := nameF_inj e
    omega) (by omega)
  refine ⟨{ D with fs := F' }, ?_, one_on h.off h.ar h6 h7 hco (by omega) (by omega)⟩
  have hRA : remC ({ D with fs := setF D.fs ⟨nameF (l.file + 1), recsB (allR c'), (recsB (allR c')).length⟩ } : Dsk) 0 (ksOf D.fs) = ({ D with fs := F' }, 0) := by
    unfold remC
    rw [if_pos rfl, ks_on h]; exact h5
  rw [compactL_is h.bad hc' r1 hRA]
  rfl
theorem start_on {D : Dsk} {l : Lg} {lo : Nat} {segs : List (List Rc)} (h : LogOn D l lo segs) (ks : List Int) : startD D ks = D := by
  have hs := start_sure (sure_perm h.perm (sure_segs segs lo)) ks
  obtain ⟨fs, off, ar⟩ := D
  have h1 := h.off
  have h2 := h.ar
  simp only at h1 h2 hs
  subst h1 h2
  unfold startD
  rw [hs]
theorem lastP_segs : ∀ (segs : List (List Rc)) (lo : Nat) (rs : List Rc), segs.getLast? = some rs → lastP (segPs lo segs) = ⟨lo + segs.length - 1, rs, (recsB rs).length, false⟩
  | [], _, _, h => by cases h
  | [x], lo, rs, h => by cases h; rfl
  | x :: y :: ss, lo, rs, h => by
    have ih := lastP_segs (y :: ss) (lo + 1) rs (by rw [List.getLast?_cons_cons] at h; exact h)
    unfold lastP at ih ⊢
    show ((⟨lo, x, (recsB x).length, false⟩ :: segPs (lo + 1) (y :: ss)).getLast?).getD _ = _
    rw [show segPs (lo + 1) (y :: ss) = ⟨lo + 1, y, (recsB y).length, false⟩ :: segPs (lo + 1 + 1) ss from rfl] at ih ⊢
    rw [List.getLast?_cons_cons, ih]
    simp only [List.length_cons]
    congr 1
    omega
theorem set_same {F : List Fil} (hS : Srt F) {f : Fil} (h : f ∈ F) : setF F f = F := by
  refine srt_eq (srt_set hS f) hS (perm_of_mem (srt_nodup (srt_set hS f)) (srt_nodup hS) fun g => ?_)
  rw [mem_set]
  constructor
  · rintro (rfl | ⟨h1, _⟩)
    · exact h
    · exact h1
  · intro hg
    by_cases he : g.name = f.name
    · exact .inl (nodup_inj (srt_nodup hS) hg h he)
    · exact .inr ⟨hg, he⟩
theorem segs_last : ∀ (segs : List (List Rc)) (lo : Nat) (rs : List Rc), segs.getLast? = some rs → (⟨nameF (lo + segs.length - 1), recsB rs, (recsB rs).length⟩ : Fil) ∈ segFs lo segs
  | [], _, _, h => by cases h
  | [x], lo, rs, h => by cases h; exact List.mem_cons_self
  | x :: y :: ss, lo, rs, h => by
    have ih := segs_last (y :: ss) (lo + 1) rs (by rw [List.getLast?_cons_cons] at h; exact h)
    refine List.mem_cons_of_mem _ ?_
    rw [show lo + (x :: y :: ss).length - 1 = lo + 1 + (y :: ss).length - 1 by simp only [List.length_cons]; omega]
    exact ih
theorem open_on {D : Dsk} {l : Lg} {lo : Nat} {segs : List (List Rc)} (h : LogOn D l lo segs) : openL D = (D, some l, 0) := by
  obtain ⟨ps, h1, h2⟩ := parts_on h
  obtain ⟨r, rs0, ss, e, _, _⟩ := h.base
  have hne : (segPs lo segs).length ≠ 0 := by rw [e]; simp [segPs]
  have hoff : ¬ D.off = true := by rw [h.off]; simp
  rw [openL_some hoff (by rw [h1, Option.map_some, h2]) hne (readL_on h)]
  obtain ⟨rs, hl1, hl2⟩ := Option.map_eq_some_iff.1 h.long
  have hf := h.file
  have hw := h.few
  have hlp := lastP_segs segs lo rs hl1
  rw [show lo + segs.length - 1 = l.file by omega] at hlp
  have hmem := h.perm.mem_iff.2 (segs_last segs lo rs hl1)
  rw [show lo + segs.length - 1 = l.file by omega] at hmem
  have hT := openT_no (D := D) (Dj := D) (ps := segPs lo segs) (i := 0) (c := l.c) (q := ⟨l.file, (recsB rs).length, false, rs.map fun r => (r, undef), none, 0⟩) (by rw [hlp]; simp [PV.pt, PV.recs, Function.comp_def]) rfl rfl
  rw [hT]
  simp only
  rw [hl2]
  have hg : getF D.fs (nameF l.file) = some ⟨nameF l.file, recsB rs, (recsB rs).length⟩ := (getF_some h.srt).2 ⟨hmem, rfl⟩
  have r1 := doD_quiet (D := D) h.ar (kind := 1) (nm := nameF l.file) (p := []) (n := 0) (may_log_at h.off (by omega) hg) (fun h => absurd h.1 (by decide))
  have e1 : doF D.fs 1 (nameF l.file) [] (0 : Int).toNat = D.fs := by
    show setF D.fs ⟨nameF l.file, (oldF D.fs (nameF l.file)).b, (oldF D.fs (nameF l.file)).b.length⟩ = _
    unfold oldF
    rw [hg]
    exact set_same h.srt hmem
  rw [e1] at r1
  rw [openS_yes r1 rfl]
  obtain ⟨c, fi, lo2, bad⟩ := l
  have hb := h.bad
  simp only at hb
  subst hb
  rfl
structure LogI (D : Dsk) (l : Lg) (i N : Nat) : Prop where
  on : ∃ lo segs, LogOn D l lo segs ∧ (∀ rs ∈ segs, (recsB rs).length ≤ 200 * (i + 1) + 11 * N) ∧ 5 * segs.flatten.length ≤ N + 10 * (i + 1)
  file : l.file ≤ i + 1
  w : wE l.c.es ≤ 11 * N
  cnt : 5 * l.c.es.length ≤ N
section
variable {D : Dsk} {l : Lg} {i N : Nat}
theorem LogI.mono (h : LogI D l i N) {j M : Nat} (hj : i ≤ j) (hM : N ≤ M) : LogI D l j M := by
  obtain ⟨lo, segs, h1, h2, h3⟩ := h.on
  have a := h.file
  have b := h.w
  have c := h.cnt
  exact ⟨⟨lo, segs, h1, fun rs hrs => by have := h2 rs hrs; omega, by omega⟩, by omega, by omega, by omega⟩
theorem LogI.bad (h : LogI D l i N) : l.bad = 0 := by obtain ⟨_, _, h1, _⟩ := h.on; exact h1.bad
theorem LogI.off (h : LogI D l i N) : D.off = false := by obtain ⟨_, _, h1, _⟩ := h.on; exact h1.off
theorem LogI.ar (h : LogI D l i N) : D.ar = none := by obtain ⟨_, _, h1, _⟩ := h.on; exact h1.ar
theorem LogI.arOk (h : LogI D l i N) : ArOk D.ar := by rw [h.ar]; intro a p e; cases e
theorem LogI.cn (h : LogI D l i N) : CnOk l.c := by obtain ⟨_, _, h1, _⟩ := h.on; exact h1.cn
theorem LogI.start (h : LogI D l i N) (ks : List Int) : startD D ks = D := by obtain ⟨_, _, h1, _⟩ := h.on; exact start_on h1 ks
theorem LogI.opens (h : LogI D l i N) : openL D = (D, some l, 0) := by obtain ⟨_, _, h1, _⟩ := h.on; exact open_on h1
theorem segFs_len : ∀ (segs : List (List Rc)) (lo : Nat), (segFs lo segs).length = segs.length
  | [], _ => rfl
  | rs :: ss, lo => by show (segFs (lo + 1) ss).length + 1 = _; rw [segFs_len ss (lo + 1), List.length_cons]
theorem segFs_mem : ∀ (segs : List (List Rc)) (lo : Nat), ∀ f ∈ segFs lo segs, ∃ rs ∈ segs, f.b = recsB rs ∧ f.sure = f.b.length
  | [], _ => fun f h => by cases h
  | rs :: ss, lo => fun f h => by
    rcases List.mem_cons.1 h with rfl | h
    · exact ⟨rs, List.mem_cons_self, rfl, rfl⟩
    · obtain ⟨x, hx, h2⟩ := segFs_mem ss (lo + 1) f h
      exact ⟨x, List.mem_cons_of_mem _ hx, h2⟩
theorem LogI.few (h : LogI D l i N) : D.fs.length ≤ i + 1 := by
  obtain ⟨lo, segs, h1, _⟩ := h.on
  have h2 := h1.perm.length_eq
  rw [segFs_len] at h2
  have := h1.file
  have := h1.lo0
  have := h.file
  omega
theorem LogI.good (h : LogI D l i N) : Good D.fs (200 * (i + 1) + 11 * N) := by
  obtain ⟨lo, segs, h1, h2, _⟩ := h.on
  have hf := h1.file
  have hw := h1.few
  refine ⟨h1.srt, fun f hf2 => ?_, fun f hf2 => ?_, fun f hf2 => ?_⟩
  · obtain ⟨rs, _, _, h3⟩ := segFs_mem segs lo f (h1.perm.mem_iff.1 hf2)
    omega
  · obtain ⟨rs, hrs, h3, _⟩ := segFs_mem segs lo f (h1.perm.mem_iff.1 hf2)
    rw [h3]; exact h2 rs hrs
  · obtain ⟨j, hj, h3⟩ := segFs_name segs lo f (h1.perm.mem_iff.1 hf2)
    rw [h3]
    have := nameF_short (lo + j) (by omega)
    omega
theorem LogI.long (h : LogI D l i N) : l.long ≤ 200 * (i + 1) + 11 * N := by
  obtain ⟨lo, segs, h1, h2, _⟩ := h.on
  obtain ⟨rs, hl1, hl2⟩ := Option.map_eq_some_iff.1 h1.long
  rw [← hl2]
  exact h2 rs (List.mem_of_getLast? hl1)
theorem LogI.ks (h : LogI D l i N) : ∀ k ∈ ksOf D.fs, k ≤ i + 1 := by
  obtain ⟨lo, segs, h1, _⟩ := h.on
  intro k hk
  rw [ks_on h1] at hk
  obtain ⟨p, hp, rfl⟩ := List.mem_map.1 hk
  have h2 := segPs_k segs lo p hp
  have := h1.file
  have := h.file
  omega
theorem LogI.parts (h : LogI D l i N) (hN : N ≤ 1048576) (hi : i ≤ 1000) : ∀ ps, (partsF D.fs).map sortP = some ps → (ps.map (·.rs)).flatten.length ≤ 1000000 ∧ ∀ p ∈ ps, p.k ≤ i + 1 := by
  obtain ⟨lo, segs, h1, _, h3⟩ := h.on
  intro ps hps
  obtain ⟨p0, h4, h5⟩ := parts_on h1
  rw [h4, Option.map_some, h5] at hps
  cases hps
  refine ⟨?_, fun p hp => ?_⟩
  · rw [segPs_rs]; omega
  · have h2 := segPs_k segs lo p hp
    have := h1.file
    have := h.file
    omega
theorem LogI.save (h : LogI D l i N) (hi : i ≤ 1000) {t v : Int} {es : List EA} (ht : t ≤ 9223372036854775807) (hv : v ≤ 9223372036854775807) (he : ∀ e ∈ es, EAok e) : LogI (saveL D l t v es).1 (saveL D l t v es).2.1 (i + 1) (N + wtA es) := by
  obtain ⟨lo, segs, h1, h2, h3⟩ := h.on
  have hf := h.file
  rcases saveL_quiet h1 (by omega) ht hv he with ⟨e, h4, _⟩ | ⟨c', s0, o, l', hp, ht0, hv0, hT, hlf, hlc, hR, hon⟩
  · rw [h4]
    exact h.mono (by omega) (by omega)
  · have e2 : (saveL D l t v es).2.1 = l' := by rw [hR]
    rw [e2]
    have hb := saveB_le l.c t.toNat v.toNat es
    rw [saveB_is] at hb
    have hl := saveR_len l.c t.toNat v.toNat es
    obtain ⟨w1, w2⟩ := putsA_w hp
    have hw := h.w
    have hc := h.cnt
    have hlen := Tail.len h1 hT
    refine ⟨⟨lo, _, hon, fun rs hrs => ?_, ?_⟩, by omega, ?_, ?_⟩
    · rcases List.mem_append.1 hrs with hrs | hrs
      · have := h2 rs (hT.app ▸ List.mem_append_left _ hrs); omega
      · rw [List.mem_singleton.1 hrs, recsB_app, List.length_append]
        have ho : (recsB o.flatten).length ≤ 200 * (i + 1) + 11 * N := by
          have happ := hT.app
          have hone := hT.one
          match o, hone, happ with
          | [], _, _ => simp [recsB]
          | [x], _, happ =>
            have := h2 x (by rw [happ]; exact List.mem_append_right _ List.mem_cons_self)
            simpa using this
        omega
    · have e3 : (s0 ++ [o.flatten ++ saveR l.c t.toNat v.toNat (es.map EA.en)]).flatten.length = segs.flatten.length + (saveR l.c t.toNat v.toNat (es.map EA.en)).length := by
        rw [hT.app]
        simp only [List.flatten_append, List.flatten_cons, List.flatten_nil, List.append_nil, List.length_append]
        omega
      rw [e3]; omega
    · rw [hlc]; simp only; omega
    · rw [hlc]; simp only; omega
theorem LogI.compact (h : LogI D l i N) (hi : i ≤ 1000) {a t : Int} (ha : a ≤ 9223372036854775807) (ht : t ≤ 9223372036854775807) : LogI (compactL D l a t).1 (compactL D l a t).2.1 (i + 1) N := by
  obtain ⟨lo, segs, h1, h2, h3⟩ := h.on
  have hf := h.file
  have hw := h.w
  have hc := h.cnt
  rcases compactL_quiet h1 (by omega) ha ht with ⟨e, h4, _⟩ | ⟨D', h4, hon⟩
  · rw [h4]
    exact h.mono (by omega) (by omega)
  · rw [h4]
    have h5 := keep_w l.c a.toNat t.toNat
    have h6 := keep_len l.c a.toNat t.toNat
    have h7 := allR_le (keepC l.c a.toNat t.toNat)
    refine ⟨⟨_, _, hon, fun rs hrs => ?_, ?_⟩, by simp only; omega, by simp only; omega, by simp only; omega⟩
    · rw [List.mem_singleton.1 hrs]; omega
    · rw [List.flatten_singleton]
      unfold allR
      rw [List.length_cons, List.length_cons, List.length_map]
      omega
end
theorem save_yes {D : Dsk} {l : Lg} {i N : Nat} (h : LogI D l i N) (hi : i ≤ 1000) {t v : Int} {es : List EA} (ht : 0 ≤ t ∧ t ≤ 9223372036854775807) (hv : 0 ≤ v ∧ v ≤ 9223372036854775807) (he : ∀ e ∈ es, EAok e) {c' : Cn} (hp : putsA l.c es = some c') (hl : es.any (fun e => decide (65536 < e.d.length)) = false) (hb : saveB l.c t.toNat v.toNat (es.map EA.en) ≠ []) {R : Dsk × Lg × Nat} (hR : saveL D l t v es = R) :
    R.2.2 = 0 ∧ R.2.1.c = { c' with term := t.toNat, vote := v.toNat } := by
  subst hR
  obtain ⟨lo, segs, h1, _⟩ := h.on
  have hf := h.file
  rcases saveL_quiet h1 (by omega) ht.2 hv.2 he with ⟨e, h4, h5⟩ | ⟨c2, s0, o, l', hp2, _, _, _, _, hlc, hR, _⟩
  · exfalso
    rcases h5 with h5 | h5 | h5 | h5
    · rw [hp] at h5; cases h5
    · omega
    · rw [hl] at h5; cases h5
    · exact hb h5
  · rw [hp] at hp2
    cases hp2
    rw [hR]
    exact ⟨rfl, hlc⟩
theorem compact_yes {D : Dsk} {l : Lg} {i N : Nat} (h : LogI D l i N) (hi : i ≤ 1000) {a t : Nat} (ha : a < 9223372036854775808) (ht : t < 9223372036854775808) {R : Dsk × Lg × Nat} (hR : compactL D l ((a : Nat) : Int) ((t : Nat) : Int) = R) : R.2.2 = 0 ∧ R.2.1.c = keepC l.c a t ∧ R.1.fs.length = 1 := by
  subst hR
  obtain ⟨lo, segs, h1, _⟩ := h.on
  have hf := h.file
  rcases compactL_quiet h1 (by omega) (i := ((a : Nat) : Int)) (t := ((t : Nat) : Int)) (by omega) (by omega) with ⟨e, h4, h5⟩ | ⟨D', h4, hon⟩
  · exfalso; omega
  · rw [h4]
    rw [Int.toNat_natCast, Int.toNat_natCast] at hon ⊢
    exact ⟨rfl, rfl, hon.perm.length_eq⟩
theorem new_put : doD ⟨[], false, none⟩ 2 (nameF 1) (recsB (allR Cn.zero)) 0 = (⟨[⟨nameF 1, recsB (allR Cn.zero), (recsB (allR Cn.zero)).length⟩], false, none⟩, 0) := by
  rw [doD_quiet (D := ⟨[], false, none⟩) rfl (may_log rfl (by omega)) (fun h => absurd h.1 (by decide))]
  rfl
theorem sort_nil : (partsF ([] : List Fil)).map sortP = some [] := by
  show some (sortP []) = some []
  unfold sortP
  rw [List.mergeSort_nil]
theorem open_new : openL ⟨[], false, none⟩ = (⟨[⟨nameF 1, recsB (allR Cn.zero), (recsB (allR Cn.zero)).length⟩], false, none⟩, some ⟨Cn.zero, 1, (recsB (allR Cn.zero)).length, 0⟩, 0) := by
  rw [openL_new (by simp) sort_nil, new_put, if_neg (fun h => h rfl)]
theorem logI_new : LogI ⟨[⟨nameF 1, recsB (allR Cn.zero), (recsB (allR Cn.zero)).length⟩], false, none⟩ ⟨Cn.zero, 1, (recsB (allR Cn.zero)).length, 0⟩ 0 0 := by
  have h := allR_le Cn.zero
  refine ⟨⟨1, [allR Cn.zero], one_on rfl rfl (List.pairwise_singleton _ _) (List.Perm.refl _) cnOk_zero (by omega) (by omega), fun rs hrs => ?_, ?_⟩, Nat.le_refl _, by simp [wE, recsB, Cn.zero], by simp [Cn.zero]⟩
  · rw [List.mem_singleton.1 hrs]
    have e : wE Cn.zero.es = 0 := rfl
    omega
  · simp [allR, Cn.zero]
theorem nil_parts : (∀ ps, (partsF ([] : List Fil)).map sortP = some ps → (ps.map (·.rs)).flatten.length ≤ 1000000) ∧ ∀ ps, (partsF ([] : List Fil)).map sortP = some ps → ∀ p ∈ ps, p.k < 100 := by
  have e := sort_nil
  rw [e]
  exact ⟨fun ps h => (by cases h; simp), fun ps h p hp => (by cases h; cases hp)⟩
end Go.Proofs.YtajapgjemefoiaaGreatDoor
/- Layer 19 (wal): a save that the power goes away in. Plain mathematics. -/
set_option linter.unusedVariables false
namespace Go.Proofs.YtajapgjemefoiaaGreatDoor
open Go.SW Go.RowKit
theorem mapIdx_same {L : List Fil} {f : Nat → Fil → Fil} (h : ∀ i g, g ∈ L → f i g = g) : L.mapIdx f = L := by
  apply List.ext_getElem?
  intro j
  rw [List.getElem?_mapIdx]
  cases hj : L[j]? with
  | none => rfl
  | some g => simp only [Option.map_some]; rw [h j g (List.mem_of_getElem? hj)]
theorem start_set {F : List Fil} (hS : Sure F) (f : Fil) (ks : List Int) : ∃ i, startF (setF F f) ks = setF F (startF1 f i ks) := by
  refine ⟨(F.filter (fun g => decide (g.name < f.name))).length, ?_⟩
  show (F.filter (fun g => decide (g.name < f.name)) ++ f :: F.filter (fun g => decide (f.name < g.name))).mapIdx (fun i f => startF1 f i ks) = F.filter (fun g => decide (g.name < f.name)) ++ startF1 f (F.filter (fun g => decide (g.name < f.name))).length ks :: F.filter (fun g => decide (f.name < g.name))
  rw [List.mapIdx_append, List.mapIdx_cons]
  rw [mapIdx_same (L := F.filter (fun g => decide (g.name < f.name))) (f := fun i f => startF1 f i ks) fun i g hg => startF1_sure (hS g (List.mem_filter.1 hg).1) i ks]
  rw [mapIdx_same (L := F.filter (fun g => decide (f.name < g.name))) fun i g hg => startF1_sure (hS g (List.mem_filter.1 hg).1) _ ks]
  simp only [Nat.zero_add]
theorem cut_on {D E : Dsk} {pt : Int} (h : cutD D = (E, false, pt)) : E.off = D.off := by
  unfold cutD at h
  split at h <;> cases h <;> rfl
theorem torn_save {D D2 : Dsk} {l : Lg} {lo : Nat} {segs : List (List Rc)} (h : LogOn D l lo segs) (hfew : l.file < 100000) (hfs : D2.fs = D.fs) (hoff : D2.off = false) {t v : Int} {es : List EA} {R : Dsk × Lg × Nat} (hR : saveL D2 l t v es = R) (h80 : R.2.2 = 80) :
    ∃ c' s0 o m s, putsA l.c es = some c' ∧ 0 ≤ t ∧ 0 ≤ v ∧ (¬ es.any (fun e => decide (65536 < e.d.length)) = true) ∧ Tail l lo segs s0 o ∧ R.1.fs = setF D.fs ⟨nameF (lo + s0.length), recsB o.flatten ++ (recsB (saveR l.c t.toNat v.toNat (es.map EA.en))).take m, s⟩ ∧
      (recsB o.flatten).length ≤ s ∧ s ≤ (recsB o.flatten ++ (recsB (saveR l.c t.toNat v.toNat (es.map EA.en))).take m).length := by
  have hb0 := h.bad
  cases hp : putsA l.c es with
  | none => rw [saveL_none hb0 hp] at hR; subst hR; exact absurd h80 (by simp)
  | some c' =>
  by_cases htv : t < 0 ∨ v < 0
  · rw [saveL_neg hb0 hp htv] at hR; subst hR; exact absurd h80 (by simp)
  by_cases hlong : es.any (fun e => decide (65536 < e.d.length)) = true
  · rw [saveL_long hb0 hp htv hlong] at hR; subst hR; exact absurd h80 (by simp)
  by_cases hb : saveB l.c t.toNat v.toNat (es.map EA.en) = []
  · rw [saveL_nil hb0 hp htv hlong hb] at hR; subst hR; exact absurd h80 (by simp)
  obtain ⟨T, rfl⟩ : ∃ T : Nat, t = T := ⟨t.toNat, by omega⟩
  obtain ⟨V, rfl⟩ : ∃ V : Nat, v = V := ⟨v.toNat, by omega⟩
  rw [Int.toNat_natCast, Int.toNat_natCast] at hb ⊢
  obtain ⟨s0, o, hT⟩ := tail_of h
  have hlen := Tail.len h hT
  have hpm : D.fs.Perm (segFs lo (s0 ++ o)) := hT.app ▸ h.perm
  have hold := old_last h.srt hpm hT.one
  rw [saveL_w hb0 hp hlong (b := recsB (saveR l.c T V (es.map EA.en))) (saveB_is _ _ _ _) (by rw [← saveB_is]; exact hb) hT.fi rfl] at hR
  generalize (if 1024 ≤ l.long then 0 else l.long) + (recsB (saveR l.c T V (es.map EA.en))).length = lg at hR
  generalize recsB (saveR l.c T V (es.map EA.en)) = b at hR ⊢
  obtain ⟨E, cu, pt, hc⟩ : ∃ E cu pt, cutD D2 = (E, cu, pt) := ⟨_, _, _, rfl⟩
  have r1 := doD_ok (kind := 0) (th := false) (nm := nameF (lo + s0.length)) (p := b) (n := 0) rfl (may_log hoff (by omega)) (fun h => absurd h.1 (by decide)) hc
  rw [if_pos (.inr (.inl rfl)), hfs] at r1
  have e1 : ∀ p : List UInt8, doF D.fs 0 (nameF (lo + s0.length)) p (0 : Int).toNat = setF D.fs ⟨nameF (lo + s0.length), recsB o.flatten ++ p, (recsB o.flatten).length⟩ := fun p => by
    show setF D.fs ⟨nameF (lo + s0.length), (oldF D.fs (nameF (lo + s0.length))).b ++ p, (oldF D.fs (nameF (lo + s0.length))).sure⟩ = _
    rw [hold]
  rw [e1] at r1
  cases cu with
  | true =>
    rw [if_pos ⟨rfl, rfl⟩, if_pos rfl] at r1
    rw [saveW_1 r1 (by simp)] at hR
    subst hR
    exact ⟨c', s0, o, modI pt (b.length + 1), (recsB o.flatten).length, rfl, by omega, by omega, hlong, hT, rfl, Nat.le_refl _, by rw [List.length_append]; omega⟩
  | false =>
    rw [if_neg (fun h => by cases h.1), if_neg (by simp)] at r1
    have hoE := (cut_on hc).trans hoff
    have hg := getF_set h.srt ⟨nameF (lo + s0.length), recsB o.flatten ++ b, (recsB o.flatten).length⟩ (nameF (lo + s0.length))
    rw [if_pos rfl] at hg
    obtain ⟨D5, hD5⟩ : ∃ D5, D5 = ({ E with fs := setF D.fs ⟨nameF (lo + s0.length), recsB o.flatten ++ b, (recsB o.flatten).length⟩ } : Dsk) := ⟨_, rfl⟩
    rw [← hD5] at r1
    have hf5 : D5.fs = setF D.fs ⟨nameF (lo + s0.length), recsB o.flatten ++ b, (recsB o.flatten).length⟩ := by rw [hD5]
    have ho5 : D5.off = false := by rw [hD5]; exact hoE
    rw [← hf5] at hg
    obtain ⟨E2, cu2, pt2, hc2⟩ : ∃ E cu pt, cutD D5 = (E, cu, pt) := ⟨_, _, _, rfl⟩
    have r2 := doD_ok (kind := 1) (th := true) (nm := nameF (lo + s0.length)) (p := []) (n := 0) rfl (may_log_at ho5 (by omega) hg) (fun h => absurd h.1 (by decide)) hc2
    rw [if_neg (show ¬ (cu2 = true ∧ 1 = 0) from fun h => by cases h.2)] at r2
    have e2 : doF D5.fs 1 (nameF (lo + s0.length)) [] (0 : Int).toNat = setF D.fs ⟨nameF (lo + s0.length), recsB o.flatten ++ b, (recsB o.flatten ++ b).length⟩ := by
      show setF D5.fs ⟨_, (oldF D5.fs _).b, (oldF D5.fs _).b.length⟩ = _
      unfold oldF
      rw [hg, hf5]
      exact set_twice h.srt rfl
    rw [e2] at r2
    cases cu2 with
    | false =>
      rw [if_neg (show ¬ false = true by simp)] at r2
      rw [saveW_3 r1 rfl r2 rfl] at hR
      subst hR
      exact absurd h80 (by simp)
    | true =>
      rw [if_pos (show true = true from rfl)] at r2
      rw [saveW_2 r1 rfl r2 (by simp)] at hR
      subst hR
      by_cases h1 : modI pt2 2 = 1
      · rw [if_pos (.inr (.inr h1))]
        exact ⟨c', s0, o, b.length, _, rfl, by omega, by omega, hlong, hT, by rw [List.take_length], by rw [List.length_append]; omega, by rw [List.take_length]; exact Nat.le_refl _⟩
      · rw [if_neg (fun h => by rcases h with h | h | h; cases h; cases h; exact h1 h)]
        exact ⟨c', s0, o, b.length, _, rfl, by omega, by omega, hlong, hT, by rw [List.take_length]; exact hf5, Nat.le_refl _, by rw [List.length_append]; omega⟩
theorem torn_split : ∀ (rs : List Rc) (m : Nat), ∃ q tl, (recsB rs).take m = recsB (rs.take q) ++ tl ∧ (tl = [] ∨ ∃ r ∈ rs, ∃ n, tl = (recB r).take n ∧ 0 < n ∧ n < (recB r).length)
  | [], m => ⟨0, [], by simp [recsB], .inl rfl⟩
  | r :: rs, m => by
    have e : recsB (r :: rs) = recB r ++ recsB rs := rfl
    by_cases h0 : m = 0
    · exact ⟨0, [], by subst h0; simp [recsB], .inl rfl⟩
    by_cases h1 : m < (recB r).length
    · refine ⟨0, (recB r).take m, ?_, .inr ⟨r, List.mem_cons_self, m, rfl, by omega, h1⟩⟩
      rw [e, List.take_append_of_le_length (by omega)]; rfl
    · obtain ⟨q, tl, h2, h3⟩ := torn_split rs (m - (recB r).length)
      refine ⟨q + 1, tl, ?_, ?_⟩
      · rw [e, List.take_append, List.take_of_length_le (by omega), h2]
        show _ = (recB r ++ recsB (rs.take q)) ++ tl
        rw [List.append_assoc]
      · rcases h3 with h3 | ⟨x, hx, h4⟩
        · exact .inl h3
        · exact .inr ⟨x, List.mem_cons_of_mem _ hx, h4⟩
theorem torn_start {D : Dsk} {l : Lg} {lo : Nat} {segs o : List (List Rc)} (h : LogOn D l lo segs) {X : Dsk} {b : List UInt8} {m s : Nat} {nm : List UInt8} (hX : X.fs = setF D.fs ⟨nm, recsB o.flatten ++ b.take m, s⟩) (h1 : (recsB o.flatten).length ≤ s) (h2 : s ≤ (recsB o.flatten ++ b.take m).length) (ks : List Int) :
    ∃ m, startD X ks = ⟨setF D.fs ⟨nm, recsB o.flatten ++ b.take m, (recsB o.flatten ++ b.take m).length⟩, false, none⟩ := by
  obtain ⟨i, hi⟩ := start_set (sure_perm h.perm (sure_segs segs lo)) ⟨nm, recsB o.flatten ++ b.take m, s⟩ ks
  have hle := startS_le (f := ⟨nm, recsB o.flatten ++ b.take m, s⟩) h2 i ks
  simp only at hle
  unfold startD
  rw [hX, hi]
  unfold startF1
  generalize startS ⟨nm, recsB o.flatten ++ b.take m, s⟩ i ks = s2 at hle ⊢
  simp only
  have e : (recsB o.flatten ++ b.take m).take s2 = recsB o.flatten ++ b.take (min (s2 - (recsB o.flatten).length) m) := by
    rw [List.take_append, List.take_of_length_le (by omega), List.take_take]
  refine ⟨min (s2 - (recsB o.flatten).length) m, ?_⟩
  rw [← e, List.length_take, Nat.min_eq_left hle.2]
theorem ptF_torn {k : Nat} {rs : List Rc} {tl : List UInt8} (h : ∀ r ∈ rs, RcOk r) (h0 : 0 < k) (h1 : k < 1000000000) (ht : tl = [] ∨ ∃ r, RcOk r ∧ ∃ n, tl = (recB r).take n ∧ 0 < n ∧ n < (recB r).length) (s : Nat) : ptF ⟨nameF k, recsB rs ++ tl, s⟩ = some ⟨k, rs, (recsB rs).length, decide (tl ≠ [])⟩ := by
  unfold ptF
  simp only
  rcases ht with rfl | ⟨r, hr, n, rfl, hn0, hn1⟩
  · rw [List.append_nil, recsB_eq h, scan_all (recP_all h), rowsR_recP h, numF_nameF h0 h1]; rfl
  · have hne : (recB r).take n ≠ [] := fun e => by have := congrArg List.length e; rw [List.length_take, List.length_nil] at this; omega
    rw [decide_eq_true hne]
    rw [recB_eq hr] at hn1 ⊢
    rw [recsB_eq h, scan_torn (recP_all h) (recP_len hr) hn0 hn1, rowsR_recP h, numF_nameF h0 h1]; rfl
theorem partsF_app : ∀ (A B : List Fil) {a b : List Pt}, partsF A = some a → partsF B = some b → partsF (A ++ B) = some (a ++ b)
  | [], B, a, b, h1, h2 => by cases h1; exact h2
  | f :: A, B, a, b, h1, h2 => by
    rw [partsF] at h1
    show partsF (f :: (A ++ B)) = _
    rw [partsF]
    split at h1
    · rename_i h0; rw [if_pos h0]; exact partsF_app A B h1 h2
    · rename_i h0
      rw [if_neg h0]
      obtain ⟨p, e1, h3⟩ := Option.bind_eq_some_iff.1 h1
      obtain ⟨r, e2, rfl⟩ := Option.map_eq_some_iff.1 h3
      rw [e1, partsF_app A B e2 h2]; rfl
theorem sort_lt {ps L : List Pt} (hp : ps.Perm L) (hL : L.Pairwise (fun a b => a.k < b.k)) (hs : ps.Pairwise (fun a b => a.k ≤ b.k)) : ps = L := by
  refine List.Perm.eq_of_pairwise (le := fun a b : Pt => a.k ≤ b.k) (fun a b ha hb h3 h4 => ?_) hs (hL.imp fun h => Nat.le_of_lt h) hp
  exact keys_inj hL (hp.mem_iff.1 ha) hb (by omega)
theorem seg_last_lt (s0 : List (List Rc)) (lo : Nat) {p : Pt} (hp : p.k = lo + s0.length) : (segPs lo s0 ++ [p]).Pairwise (fun a b => a.k < b.k) := by
  rw [List.pairwise_append]
  refine ⟨(segPs_lt s0 lo).2, List.pairwise_singleton _ _, fun a ha b hb => ?_⟩
  rw [List.mem_singleton.1 hb]
  have := (segPs_k s0 lo a ha).2
  omega
theorem okP_last : ∀ (s0 : List (List Rc)) (lo : Nat) (p : Pt), p.k = lo + s0.length → p.k ≤ 100000000 → okP (segPs lo s0 ++ [p]) = true
  | [], lo, p, h1, h2 => by simp [segPs, okP, h2]
  | rs :: s0, lo, p, h1, h2 => by
    rw [List.length_cons] at h1
    show okP (⟨lo, rs, (recsB rs).length, false⟩ :: (segPs (lo + 1) s0 ++ [p])) = true
    rw [okP_cons]
    refine ⟨by simp only; omega, fun q hq => ⟨rfl, ?_⟩, okP_last s0 (lo + 1) p (by omega) h2⟩
    match s0, hq, h1 with
    | [], hq, h1 => cases hq; simp only [List.length_nil] at h1; simp only; omega
    | x :: s0, hq, _ => cases hq; rfl
theorem readL_last {A : List Pt} {p p' : Pt} (h : p.rs = p'.rs) (h1 : okP (A ++ [p]) = true) (h2 : okP (A ++ [p']) = true) : readL (A ++ [p]) = readL (A ++ [p']) := by
  have e : isBase p = isBase p' := by unfold isBase; rw [h]
  have e2 : ∀ i, ((A ++ [p]).drop i).map (·.rs) = ((A ++ [p']).drop i).map (·.rs) := fun i => by
    rw [List.map_drop, List.map_drop, List.map_append, List.map_append, List.map_singleton, List.map_singleton, h]
  unfold readL
  rw [if_pos h1, if_pos h2, fromP_snoc, fromP_snoc, e]
  simp only [e2]
theorem segPs_app : ∀ (a b : List (List Rc)) (lo : Nat), segPs lo (a ++ b) = segPs lo a ++ segPs (lo + a.length) b
  | [], b, lo => by simp [segPs]
  | rs :: a, b, lo => by
    rw [List.cons_append, segPs, segPs, segPs_app a b (lo + 1), List.cons_append, List.length_cons, show lo + 1 + a.length = lo + (a.length + 1) by omega]
theorem torn_open {D : Dsk} {l : Lg} {lo : Nat} {segs s0 o : List (List Rc)} (h : LogOn D l lo segs) (hT : Tail l lo segs s0 o) (hfew : l.file < 100000) {new : List Rc} (hn : ∀ r ∈ new, RcOk r) (hk : ∀ r ∈ new, r.k ≠ 3) {cq : Cn} (hc : doAll l.c new false = some cq) {tl : List UInt8} (ht : tl = [] ∨ ∃ r, RcOk r ∧ ∃ n, tl = (recB r).take n ∧ 0 < n ∧ n < (recB r).length)
    {D3 : Dsk} (hD : D3 = ⟨setF D.fs ⟨nameF (lo + s0.length), recsB (o.flatten ++ new) ++ tl, (recsB (o.flatten ++ new) ++ tl).length⟩, false, none⟩) :
    ∃ D4, openL D3 = (D4, some ⟨cq, lo + s0.length, (recsB (o.flatten ++ new)).length, 0⟩, 0) ∧ LogOn D4 ⟨cq, lo + s0.length, (recsB (o.flatten ++ new)).length, 0⟩ lo (s0 ++ [o.flatten ++ new]) ∧
      ∃ mo, (partsF D3.fs).map sortP = some (segPs lo s0 ++ [⟨lo + s0.length, o.flatten ++ new, (recsB (o.flatten ++ new)).length, mo⟩]) := by
  obtain ⟨D4, hD4⟩ : ∃ D4, D4 = (⟨setF D.fs ⟨nameF (lo + s0.length), recsB (o.flatten ++ new), (recsB (o.flatten ++ new)).length⟩, false, none⟩ : Dsk) := ⟨_, rfl⟩
  have hon := on_more (D' := D4) h hT hn hk hc hfew (by rw [hD4]) (by rw [hD4]) (by rw [hD4])
  have hlen := Tail.len h hT
  have hlo0 := h.lo0
  have hpm : D.fs.Perm (segFs lo (s0 ++ o)) := hT.app ▸ h.perm
  have hx : ∀ r ∈ o.flatten ++ new, RcOk r := hon.ok _ (List.mem_append_right _ List.mem_cons_self)
  have hs0 : ∀ rs ∈ s0, ∀ r ∈ rs, RcOk r := fun rs hrs => hon.ok rs (List.mem_append_left _ hrs)
  have hread := readL_on hon
  rw [segPs_app] at hread
  generalize o.flatten ++ new = x at *
  have hpt := ptF_torn hx (show 0 < lo + s0.length by omega) (show lo + s0.length < 1000000000 by omega) ht (recsB x ++ tl).length
  have hp1 : partsF [(⟨nameF (lo + s0.length), recsB x ++ tl, (recsB x ++ tl).length⟩ : Fil)] = some [⟨lo + s0.length, x, (recsB x).length, decide (tl ≠ [])⟩] := by
    rw [partsF, if_neg (by simp only; rw [numF_nameF (by omega) (by omega)]; omega), hpt]; rfl
  have hp2 := partsF_app _ _ (partsF_segs s0 hs0 hlo0 (by omega)) hp1
  have hfs3 : D3.fs = setF D.fs ⟨nameF (lo + s0.length), recsB x ++ tl, (recsB x ++ tl).length⟩ := by rw [hD]
  have hperm : D3.fs.Perm (segFs lo s0 ++ [⟨nameF (lo + s0.length), recsB x ++ tl, (recsB x ++ tl).length⟩]) := by rw [hfs3]; exact set_last h.srt hpm hT.one rfl
  obtain ⟨ps, e3, hp3⟩ := partsF_perm hperm.symm hp2
  have hsort : sortP ps = segPs lo s0 ++ [⟨lo + s0.length, x, (recsB x).length, decide (tl ≠ [])⟩] := sort_lt ((List.mergeSort_perm _ _).trans hp3.symm) (seg_last_lt s0 lo rfl) (sortP_sorted ps)
  have hparts : (partsF D3.fs).map sortP = some (segPs lo s0 ++ [⟨lo + s0.length, x, (recsB x).length, decide (tl ≠ [])⟩]) := by rw [e3, Option.map_some, hsort]
  refine ⟨D4, ?_, hon, _, hparts⟩
  by_cases htl : tl = []
  · subst htl
    have e : D3 = D4 := by rw [hD, hD4]; simp
    rw [e]
    exact open_on hon
  · have hoff : ¬ D3.off = true := by rw [hD]; simp
    have hrd : readL (segPs lo s0 ++ [⟨lo + s0.length, x, (recsB x).length, decide (tl ≠ [])⟩]) = some (0, cq) := by
      rw [readL_last (A := segPs lo s0) (p := ⟨lo + s0.length, x, (recsB x).length, decide (tl ≠ [])⟩) (p' := ⟨lo + s0.length, x, (recsB x).length, false⟩) rfl (okP_last s0 lo _ rfl (by simp only; omega)) (okP_last s0 lo _ rfl (by simp only; omega))]
      exact hread
    rw [openL_some hoff hparts (by simp) hrd]
    have hlp : lastP (segPs lo s0 ++ [(⟨lo + s0.length, x, (recsB x).length, decide (tl ≠ [])⟩ : Pt)]) = ⟨lo + s0.length, x, (recsB x).length, decide (tl ≠ [])⟩ := by unfold lastP; simp
    rw [openT_cut (Dj := D3) (q := ⟨lo + s0.length, (recsB x).length, true, x.map fun r => (r, undef), none, 0⟩) (by rw [hlp, decide_eq_true htl]; simp [PV.pt, PV.recs, Function.comp_def]) rfl rfl]
    simp only
    have har : D3.ar = none := by rw [hD]
    have hof : D3.off = false := by rw [hD]
    have hg := getF_set h.srt ⟨nameF (lo + s0.length), recsB x ++ tl, (recsB x ++ tl).length⟩ (nameF (lo + s0.length))
    rw [if_pos rfl, ← hfs3] at hg
    have hold3 : oldF D3.fs (nameF (lo + s0.length)) = ⟨nameF (lo + s0.length), recsB x ++ tl, (recsB x ++ tl).length⟩ := by unfold oldF; rw [hg]; rfl
    have r1 := doD_quiet (D := D3) har (kind := 3) (nm := nameF (lo + s0.length)) (p := []) (n := ((recsB x).length : Int)) (may_log_at hof (by omega) hg) (fun h => by rw [hold3] at h; simp only [List.length_append] at h; omega)
    have e1 : doF D3.fs 3 (nameF (lo + s0.length)) [] ((recsB x).length : Int).toNat = setF D.fs ⟨nameF (lo + s0.length), recsB x, (recsB x).length⟩ := by
      rw [Int.toNat_natCast]
      show setF D3.fs ⟨_, (oldF D3.fs _).b.take (recsB x).length, min (oldF D3.fs _).sure (recsB x).length⟩ = _
      rw [hold3, hfs3]
      simp only [List.take_left', List.length_append]
      rw [show min ((recsB x).length + tl.length) (recsB x).length = (recsB x).length by omega]
      exact set_twice h.srt rfl
    rw [e1] at r1
    have e4 : ({ D3 with fs := setF D.fs ⟨nameF (lo + s0.length), recsB x, (recsB x).length⟩ } : Dsk) = D4 := by rw [hD, hD4]
    rw [e4] at r1
    rw [r1, if_neg (fun h => h rfl)]
    have hf4 : D4.fs = setF D.fs ⟨nameF (lo + s0.length), recsB x, (recsB x).length⟩ := by rw [hD4]
    have hg4 := getF_set h.srt ⟨nameF (lo + s0.length), recsB x, (recsB x).length⟩ (nameF (lo + s0.length))
    rw [if_pos rfl, ← hf4] at hg4
    have r2 := doD_quiet (D := D4) hon.ar (kind := 1) (nm := nameF (lo + s0.length)) (p := []) (n := 0) (may_log_at hon.off (by omega) hg4) (fun h => absurd h.1 (by decide))
    have e2 : doF D4.fs 1 (nameF (lo + s0.length)) [] (0 : Int).toNat = D4.fs := by
      show setF D4.fs ⟨_, (oldF D4.fs _).b, (oldF D4.fs _).b.length⟩ = _
      unfold oldF
      rw [hg4, hf4]
      exact set_twice h.srt rfl
    rw [e2] at r2
    exact openS_yes r2 rfl
theorem putsA_app : ∀ (a b : List EA) (c : Cn), putsA c (a ++ b) = (putsA c a).bind fun c' => putsA c' b
  | [], b, c => rfl
  | e :: a, b, c => by
    rw [List.cons_append, putsA, putsA]
    split
    · rfl
    · cases putC c e.en with
      | none => rfl
      | some c1 => exact putsA_app a b c1
theorem putsA_take {es : List EA} {c c' : Cn} (h : putsA c es = some c') (j : Nat) : ∃ cj, putsA c (es.take j) = some cj ∧ putsA cj (es.drop j) = some c' := by
  rw [← List.take_append_drop j es, putsA_app] at h
  exact Option.bind_eq_some_iff.1 h
theorem torn_match {es : List EA} {c c' : Cn} (h : putsA c es = some c') (T V q : Nat) : ∃ cq, doAll c ((saveR c T V (es.map EA.en)).take q) false = some cq ∧ (cq = c ∨ ∃ j cj, j ≤ es.length ∧ putsA c (es.take j) = some cj ∧ cq = { cj with term := T, vote := V }) := by
  have hput : ∀ q, ∃ cj, putsA c (es.take (min q es.length)) = some cj ∧ doAll { c with term := T, vote := V } (((es.map EA.en).map enR).take q) false = some { cj with term := T, vote := V } := fun q => by
    obtain ⟨cj, h1, _⟩ := putsA_take h (min q es.length)
    refine ⟨cj, h1, ?_⟩
    have h2 := puts_do T V h1
    rw [show (es.take (min q es.length)).map (fun e => enR e.en) = ((es.map EA.en).map enR).take q by rw [List.map_map, ← List.map_take]; congr 1; rw [← List.take_eq_take_min]] at h2
    exact h2
  unfold saveR
  by_cases hc : T ≠ c.term ∨ V ≠ c.vote
  · rw [if_pos hc]
    match q with
    | 0 => exact ⟨c, rfl, .inl rfl⟩
    | q + 1 =>
      obtain ⟨cj, h1, h2⟩ := hput q
      refine ⟨_, ?_, .inr ⟨_, cj, Nat.min_le_right _ _, h1, rfl⟩⟩
      show (doC c (stR T V) false).bind (fun c' => doAll c' (((es.map EA.en).map enR).take q) false) = _
      rw [show doC c (stR T V) false = some { c with term := T, vote := V } from rfl]
      exact h2
  · rw [if_neg hc, List.nil_append]
    have e1 : T = c.term := Classical.byContradiction fun h => hc (.inl h)
    have e2 : V = c.vote := Classical.byContradiction fun h => hc (.inr h)
    obtain ⟨cj, h1, h2⟩ := hput q
    refine ⟨_, ?_, .inr ⟨_, cj, Nat.min_le_right _ _, h1, rfl⟩⟩
    subst e1 e2
    exact h2
theorem recsB_take (rs : List Rc) (q : Nat) : (recsB (rs.take q)).length ≤ (recsB rs).length := by
  have h := recsB_app (rs.take q) (rs.drop q)
  rw [List.take_append_drop] at h
  rw [h, List.length_append]; omega
theorem wtA_take (es : List EA) (j : Nat) : wtA (es.take j) ≤ wtA es := by
  unfold wtA
  conv => rhs; rw [← List.take_append_drop j es]
  rw [List.map_append, List.sum_append]; omega
theorem good_one {F : List Fil} {M M' : Nat} (h : Good F M) (hM : M ≤ M') {k : Nat} (hk : k < 1000000000) {b : List UInt8} {s : Nat} (h1 : s ≤ b.length) (h2 : b.length ≤ M') : Good (setF F ⟨nameF k, b, s⟩) M' := good_set h hM h1 h2 (by have := nameF_short k (by omega); simp only; omega)
theorem torn_I {D D2 : Dsk} {l : Lg} {i N : Nat} (hI : LogI D l i N) (hi : i ≤ 90) (hfs : D2.fs = D.fs) (hoff : D2.off = false) {t v : Int} {es : List EA} (ht : t ≤ 9223372036854775807) (hv : v ≤ 9223372036854775807) (he : ∀ e ∈ es, EAok e) (hN : N + wtA es ≤ 1048576) {R : Dsk × Lg × Nat} (hR : saveL D2 l t v es = R) (h80 : R.2.2 = 80) :
    ∃ c', putsA l.c es = some c' ∧ 0 ≤ t ∧ 0 ≤ v ∧ Good R.1.fs (200 * (i + 2) + 11 * (N + wtA es)) ∧ R.1.fs.length ≤ i + 2 ∧ ∀ ks, ∃ D4 l4, openL (startD R.1 ks) = (D4, some l4, 0) ∧ LogI D4 l4 (i + 1) (N + wtA es) ∧ Good (startD R.1 ks).fs (200 * (i + 2) + 11 * (N + wtA es)) ∧ (startD R.1 ks).fs.length ≤ i + 2 ∧
      (∀ ps, (partsF (startD R.1 ks).fs).map sortP = some ps → (ps.map (·.rs)).flatten.length ≤ 1000000 ∧ ∀ p ∈ ps, p.k ≤ i + 2) ∧ (l4.c = l.c ∨ ∃ j cj, j ≤ es.length ∧ putsA l.c (es.take j) = some cj ∧ l4.c = { cj with term := t.toNat, vote := v.toNat }) := by
  obtain ⟨lo, segs, h1, h2, h3⟩ := hI.on
  have hf := hI.file
  have hgood := hI.good
  have hfew := hI.few
  obtain ⟨c', s0, o, m, s, hp, ht0, hv0, hlong, hT, hRfs, hs1, hs2⟩ := torn_save h1 (by omega) hfs hoff hR h80
  have hlen := Tail.len h1 hT
  have hlo0 := h1.lo0
  have hb := saveB_le l.c t.toNat v.toNat es
  rw [saveB_is] at hb
  have hl := saveR_len l.c t.toNat v.toNat es
  have hnew := saveR_ok (c := l.c) (t := t.toNat) (v := v.toNat) (by omega) (by omega) he hlong
  have hk3 : ∀ r ∈ saveR l.c t.toNat v.toNat (es.map EA.en), r.k ≠ 3 := saveR_k
  have hmt := torn_match hp t.toNat v.toNat
  generalize saveR l.c t.toNat v.toNat (es.map EA.en) = new at *
  have ho : (recsB o.flatten).length ≤ 200 * (i + 1) + 11 * N := by
    have happ := hT.app
    have hone := hT.one
    match o, hone, happ with
    | [], _, _ => simp [recsB]
    | [x], _, happ =>
      have := h2 x (by rw [happ]; exact List.mem_append_right _ List.mem_cons_self)
      simpa using this
  have hsz : ∀ m, (recsB o.flatten ++ (recsB new).take m).length ≤ 200 * (i + 2) + 11 * (N + wtA es) := fun m => by
    rw [List.length_append, List.length_take]; omega
  have hlenS : ∀ f : Fil, (setF D.fs f).length ≤ i + 2 := fun f => by
    have := len_doF D.fs 2 f.name f.b 0
    have e : ∀ g : Fil, (setF D.fs g).length ≤ D.fs.length + 1 := fun g => by
      rw [(setF_perm h1.srt g).length_eq, List.length_cons]
      unfold delF
      have := List.length_filter_le (fun x : Fil => !(x.name == g.name)) D.fs
      omega
    have := e f
    omega
  refine ⟨c', hp, ht0, hv0, by rw [hRfs]; exact good_one hgood (by omega) (by omega) hs2 (hsz m), by rw [hRfs]; exact hlenS _, fun ks => ?_⟩
  obtain ⟨m2, hst⟩ := torn_start (b := recsB new) h1 hRfs hs1 hs2 ks
  obtain ⟨q, tl, hq, htl⟩ := torn_split new m2
  obtain ⟨cq, hcq, hor⟩ := hmt q
  have e5 : recsB o.flatten ++ (recsB new).take m2 = recsB (o.flatten ++ new.take q) ++ tl := by rw [hq, recsB_app, List.append_assoc]
  have hg3 : Good (startD R.1 ks).fs (200 * (i + 2) + 11 * (N + wtA es)) := by rw [hst]; exact good_one hgood (by omega) (by omega) (Nat.le_refl _) (hsz m2)
  have hl3 : (startD R.1 ks).fs.length ≤ i + 2 := by rw [hst]; exact hlenS _
  rw [e5] at hst
  have htl2 : tl = [] ∨ ∃ r, RcOk r ∧ ∃ n, tl = (recB r).take n ∧ 0 < n ∧ n < (recB r).length := by
    rcases htl with h | ⟨r, hr, h⟩
    · exact .inl h
    · exact .inr ⟨r, hnew r hr, h⟩
  obtain ⟨D4, hop, hon, mo, hparts⟩ := torn_open h1 hT (by omega) (fun r hr => hnew r (List.mem_of_mem_take hr)) (fun r hr => hk3 r (List.mem_of_mem_take hr)) hcq htl2 hst
  have hcnt : (new.take q).length ≤ new.length := by rw [List.length_take]; omega
  have hby := recsB_take new q
  have hflat : (s0 ++ [o.flatten ++ new.take q]).flatten.length = segs.flatten.length + (new.take q).length := by
    rw [hT.app]
    simp only [List.flatten_append, List.flatten_cons, List.flatten_nil, List.append_nil, List.length_append]
    omega
  refine ⟨D4, _, hop, ⟨⟨lo, _, hon, fun rs hrs => ?_, by rw [hflat]; omega⟩, by simp only; omega, ?_, ?_⟩, hg3, hl3, fun ps hps => ?_, hor⟩
  · rcases List.mem_append.1 hrs with hrs | hrs
    · have := h2 rs (hT.app ▸ List.mem_append_left _ hrs); omega
    · rw [List.mem_singleton.1 hrs, recsB_app, List.length_append]; omega
  · have hw := hI.w
    simp only
    rcases hor with rfl | ⟨j, cj, _, hpj, rfl⟩
    · omega
    · have := (putsA_w hpj).1
      have := wtA_take es j
      simp only; omega
  · have hw := hI.cnt
    simp only
    rcases hor with rfl | ⟨j, cj, _, hpj, rfl⟩
    · omega
    · have := (putsA_w hpj).2
      have := wtA_take es j
      simp only; omega
  · rw [hparts] at hps
    cases hps
    rw [List.map_append, segPs_rs, List.map_singleton]
    refine ⟨by rw [hflat]; omega, fun p hp => ?_⟩
    rcases List.mem_append.1 hp with hp | hp
    · have := segPs_k s0 lo p hp; omega
    · rw [List.mem_singleton.1 hp]; simp only; omega
end Go.Proofs.YtajapgjemefoiaaGreatDoor
/- Layer 19 (wal): opening, saving, letting go, where a log is on the disk: what is answered and left. Plain theorems over the walks. -/
set_option linter.unusedVariables false
set_option maxRecDepth 100000
namespace Go.Proofs.YtajapgjemefoiaaGreatDoor
open Go.SW Go.RowKit
abbrev lgI (g db : Nat) (l : Lg) (ve : Value) : Own := lgO g db l.c ve ((l.file : Nat) : Int) ((l.long : Nat) : Int) (errV l.bad)
abbrev dkI (db mb ab : Nat) (D : Dsk) (pe : List PE) : Own := .grp (dskO db mb ab D pe)
abbrev newD : Dsk := ⟨[⟨nameF 1, recsB (allR Cn.zero), (recsB (allR Cn.zero)).length⟩], false, none⟩
abbrev newL : Lg := ⟨Cn.zero, 1, (recsB (allR Cn.zero)).length, 0⟩
section
variable {db mb ab : Nat} {D : Dsk} {l : Lg} {i N : Nat} {w : World}
theorem open_out {D0 : Dsk} {pe : List PE} {w w' : World} {v : Value} (ho : openL D0 = (D, some l, 0)) (hb : l.bad = 0) (h : OpenPost db mb ab D0 pe w v w') :
    ∃ g es ve pl pe', v = .tuple #[.pointer (some ⟨g, 0, none⟩), .nilIface] ∧ (CnR pl l.c es ve ∧ Rep pe' D.fs) ∧ Turn w w' [dkI db mb ab D0 pe] [lgI g db l ve, plO pl, dkI db mb ab D pe'] := by
  unfold OpenPost at h
  rw [ho] at h
  obtain ⟨pe', h1, ⟨h2, _⟩ | ⟨g, l2, es, ve, pl, h2, _, rfl, h4, _, h6⟩⟩ := h
  · cases h2
  · cases h2
    refine ⟨g, es, ve, pl, pe', rfl, ⟨h4, h1⟩, ?_⟩
    have e : errV l.bad = .nilIface := by rw [hb]; rfl
    show Turn w w' _ [lgO g db l.c ve ((l.file : Nat) : Int) ((l.long : Nat) : Int) (errV l.bad), plO pl, dkI db mb ab D pe']
    rw [e]; exact h6
theorem OpenI_ct (pe : List PE) (hM : Mine w [dkI db mb ab D pe]) (hI : LogI D l i N) (hi : i ≤ 90) (hN : N ≤ 1048576) (hR : Rep pe D.fs) :
    Fun Tryz.prog 14 [.pointer (some ⟨db, 0, none⟩)] w fun v w' => ∃ g es ve pl pe', v = .tuple #[.pointer (some ⟨g, 0, none⟩), .nilIface] ∧ (CnR pl l.c es ve ∧ Rep pe' D.fs) ∧ Turn w w' [dkI db mb ab D pe] [lgI g db l ve, plO pl, dkI db mb ab D pe'] := by
  have hp := hI.parts hN (by omega)
  have hf := hI.few
  refine (WOpen_ct db mb ab D pe _ w hM hR hI.arOk hI.good (by omega) (by omega) (fun ps h => (hp ps h).1) (fun ps h p hpm => .inl (by have := (hp ps h).2 p hpm; omega)) (.inl (by omega))).mono fun v w' h => open_out hI.opens hI.bad h
theorem OpenNew_ct (hM : Mine w [dkI db mb 0 ⟨[], false, none⟩ []]) :
    Fun Tryz.prog 14 [.pointer (some ⟨db, 0, none⟩)] w fun v w' => ∃ g es ve pl pe', v = .tuple #[.pointer (some ⟨g, 0, none⟩), .nilIface] ∧ (CnR pl newL.c es ve ∧ Rep pe' newD.fs) ∧ Turn w w' [dkI db mb 0 ⟨[], false, none⟩ []] [lgI g db newL ve, plO pl, dkI db mb 0 newD pe'] := by
  have hp := nil_parts
  refine (WOpen_ct db mb 0 ⟨[], false, none⟩ [] 0 w hM ⟨List.Pairwise.nil, List.Perm.refl _⟩ (fun a p e => by cases e) (good_nil 0) (by omega) (by simp) (fun ps h => hp.1 ps h) (fun ps h p hpm => .inl (hp.2 ps h p hpm)) (.inl (by omega))).mono fun v w' h => open_out open_new rfl h
theorem wt_len (es : List EA) : 5 * es.length ≤ wtA es := by
  induction es with
  | nil => simp
  | cons e es ih => rw [List.length_cons, wtA_cons]; omega
theorem wt_mem {es : List EA} {e : EA} (h : e ∈ es) : e.d.length + 5 ≤ wtA es := by
  induction es with
  | nil => cases h
  | cons x es ih =>
    rw [wtA_cons]
    rcases List.mem_cons.1 h with rfl | h
    · omega
    · have := ih h; omega
theorem SaveG_ct (g : Nat) (t v : Int) (ve vx : Value) (es : EQ) (qs : EI) (pl : Pl) (pe : List PE) (D2 : Dsk) (hD : D2.fs = D.fs) (hA : ArOk D2.ar) (hM : Mine w [lgI g db l ve, plO pl, dkI db mb ab D2 pe]) (hI : LogI D l i N) (hi : i ≤ 90) (hN : N + wtA (qs.map (·.1)) ≤ 1048576) (hL : CnR pl l.c es ve)
    (hE : Row (off w (blksOf [lgI g db l ve, plO pl, dkI db mb ab D2 pe])) vx 4 qs.length (rowC eiC qs)) (hq : ∀ q ∈ qs, RB (off w (blksOf [lgI g db l ve, plO pl, dkI db mb ab D2 pe])) q.2 q.1.d) (hok : ∀ q ∈ qs, EAok q.1) (ht : t ≤ 9223372036854775807) (hv : v ≤ 9223372036854775807) (hR : Rep pe D2.fs) :
    Fun Tryz.prog 15 [.pointer (some ⟨g, 0, none⟩), .int .i64 t, .int .i64 v, vx] w fun r w' => SavePost g db mb ab l ve pl D2 pe (saveL D2 l t v (qs.map (·.1))) w r w' := by
  have h1 := wt_len (qs.map (·.1))
  rw [List.length_map] at h1
  have h2 := hI.cnt
  have h3 := cnOk_len hI.cn
  have h4 := hI.file
  have h5 := hI.long
  have hG : Good D2.fs (200 * (i + 1) + 11 * N) := by rw [hD]; exact hI.good
  exact Save19_ct g db mb ab l t v ve vx es qs pl D2 pe _ w hM hL hE hq hok (fun q hqm => by have := wt_mem (List.mem_map.2 ⟨q, hqm, rfl⟩ : q.1 ∈ qs.map (·.1)); omega) (by omega) (by omega) ht hv (fun T V _ _ => by have := saveB_le l.c T V (qs.map (·.1)); omega) hR hA hG (by omega) (by omega) (by omega) (fun k hk => .inl (by omega))
theorem SaveI_ct (g : Nat) (t v : Int) (ve vx : Value) (es : EQ) (qs : EI) (pl : Pl) (pe : List PE) (hM : Mine w [lgI g db l ve, plO pl, dkI db mb ab D pe]) (hI : LogI D l i N) (hi : i ≤ 90) (hN : N + wtA (qs.map (·.1)) ≤ 1048576) (hL : CnR pl l.c es ve)
    (hE : Row (off w (blksOf [lgI g db l ve, plO pl, dkI db mb ab D pe])) vx 4 qs.length (rowC eiC qs)) (hq : ∀ q ∈ qs, RB (off w (blksOf [lgI g db l ve, plO pl, dkI db mb ab D pe])) q.2 q.1.d) (hok : ∀ q ∈ qs, EAok q.1) (ht : t ≤ 9223372036854775807) (hv : v ≤ 9223372036854775807) (hR : Rep pe D.fs) :
    Fun Tryz.prog 15 [.pointer (some ⟨g, 0, none⟩), .int .i64 t, .int .i64 v, vx] w fun r w' => ∃ D2 l2 e es2 ve2 pl2 pe2, r = errV e ∧ (saveL D l t v (qs.map (·.1)) = (D2, l2, e) ∧ LogI D2 l2 (i + 1) (N + wtA (qs.map (·.1))) ∧ CnR pl2 l2.c es2 ve2 ∧ Rep pe2 D2.fs) ∧
      Turn w w' [lgI g db l ve, plO pl, dkI db mb ab D pe] [lgI g db l2 ve2, plO pl2, dkI db mb ab D2 pe2] := by
  refine (SaveG_ct g t v ve vx es qs pl pe D rfl hI.arOk hM hI hi hN hL hE hq hok ht hv hR).mono ?_
  rintro r w' ⟨pe', es2, ve2, pl2, rfl, ⟨h1, h2⟩, h3⟩
  have hI2 := hI.save (by omega) ht hv (es := qs.map (·.1)) (fun e he => by obtain ⟨q, hq2, rfl⟩ := List.mem_map.1 he; exact hok q hq2)
  exact ⟨_, _, _, es2, ve2, pl2, pe', rfl, ⟨rfl, hI2, h2, h1⟩, h3⟩
theorem CompactI_ct (g : Nat) (a t : Int) (ve : Value) (es : EQ) (pl : Pl) (pe : List PE) (hM : Mine w [lgI g db l ve, plO pl, dkI db mb ab D pe]) (hI : LogI D l i N) (hi : i ≤ 90) (hN : N ≤ 1048576) (hL : CnR pl l.c es ve) (ha : a ≤ 9223372036854775807) (ht : t ≤ 9223372036854775807) (hR : Rep pe D.fs) :
    Fun Tryz.prog 16 [.pointer (some ⟨g, 0, none⟩), .int .i64 a, .int .i64 t] w fun r w' => ∃ D2 l2 e es2 ve2 pl2 pe2, r = errV e ∧ (compactL D l a t = (D2, l2, e) ∧ LogI D2 l2 (i + 1) N ∧ CnR pl2 l2.c es2 ve2 ∧ Rep pe2 D2.fs) ∧
      Turn w w' [lgI g db l ve, plO pl, dkI db mb ab D pe] [lgI g db l2 ve2, plO pl2, dkI db mb ab D2 pe2] := by
  have h2 := hI.cnt
  have h4 := hI.file
  have h5 := hI.few
  have h6 := hI.w
  refine (Compact_ct g db mb ab l a t ve es pl D pe _ w hM hL hI.cn (by omega) ha ht (fun I T _ _ => by have h7 := allR_le (keepC l.c I T); have h8 := keep_w l.c I T; omega) hR hI.arOk hI.good (by omega) (by omega) (by omega) (.inl (by omega)) (fun k hk => .inl (by have := hI.ks k hk; omega))).mono ?_
  rintro r w' ⟨pe', es2, ve2, pl2, rfl, ⟨h1, h2⟩, h3⟩
  exact ⟨_, _, _, es2, ve2, pl2, pe', rfl, ⟨rfl, hI.compact (by omega) ha ht, h2, h1⟩, h3⟩
theorem saveB_same (c : Cn) : saveB c c.term c.vote [] = [] := by
  unfold saveB
  rw [if_neg (fun h => by rcases h with h | h <;> exact h rfl)]; rfl
theorem save_same (h : LogI D l i N) : saveL D l ((l.c.term : Nat) : Int) ((l.c.vote : Nat) : Int) [] = (D, l, 0) :=
  saveL_nil h.bad (c' := l.c) rfl (by omega) (by simp) (by rw [Int.toNat_natCast, Int.toNat_natCast]; exact saveB_same l.c)
theorem save_minus (h : LogI D l i N) (v : Int) : saveL D l (-1) v [] = (D, l, 1) := saveL_neg h.bad (c' := l.c) rfl (.inl (by omega))
theorem Save0_ct (g : Nat) (t v : Int) (e : Nat) (ve : Value) (es : EQ) (pl : Pl) (pe : List PE) (hM : Mine w [lgI g db l ve, plO pl, dkI db mb ab D pe]) (hI : LogI D l i N) (hi : i ≤ 90) (hN : N ≤ 1048576) (hL : CnR pl l.c es ve) (ht : t ≤ 9223372036854775807) (hv : v ≤ 9223372036854775807) (hR : Rep pe D.fs) (hs : saveL D l t v [] = (D, l, e)) :
    Fun Tryz.prog 15 [.pointer (some ⟨g, 0, none⟩), .int .i64 t, .int .i64 v, .slice none 0 0] w fun r w' => ∃ es2 ve2 pl2 pe2, r = errV e ∧ (CnR pl2 l.c es2 ve2 ∧ Rep pe2 D.fs) ∧
      Turn w w' [lgI g db l ve, plO pl, dkI db mb ab D pe] [lgI g db l ve2, plO pl2, dkI db mb ab D pe2] := by
  refine (SaveG_ct g t v ve (.slice none 0 0) es [] pl pe D rfl hI.arOk hM hI hi (by simpa [wtA] using hN) hL (Row.nil _ _) (fun q hq => by cases hq) (fun q hq => by cases hq) ht hv hR).mono ?_
  rintro r w' ⟨pe', es2, ve2, pl2, h0, ⟨h1, h2⟩, h3⟩
  rw [List.map_nil, hs] at h0 h1 h2 h3
  exact ⟨es2, ve2, pl2, pe', h0, ⟨h2, h1⟩, h3⟩
end
structure AW where
  dv : Int
  n : Int
  m : Int
  vl : Value
  L : EI
  vk : Value
  ks : List Int
  nm : List UInt8
  vb : Value
def awC (a : AW) : List Value := [.int .i64 a.dv, .int .i64 a.n, .int .i64 a.m, a.vl, a.vk, .string (bs a.nm), a.vb]
theorem awC_len (a : AW) : (awC a).length = 7 := rfl
structure AwOk (c : Zone) (a : AW) : Prop where
  row : Row c a.vl 4 a.L.length (rowC eiC a.L)
  rb : ∀ q ∈ a.L, RB c q.2 q.1.d
  ok : ∀ q ∈ a.L, EAok q.1
  ks : Row c a.vk 1 a.ks.length (iv a.ks)
  n : a.n ≤ 9223372036854775807
  m : a.m ≤ 9223372036854775807
  vb : a.vb.oneCell' = true
def wtW (ac : List AW) : Nat := (ac.map fun a => wtA (a.L.map (·.1))).sum
theorem wtW_next {ac : List AW} {i : Nat} {a : AW} (h : ac[i]? = some a) : wtW (ac.take (i + 1)) = wtW (ac.take i) + wtA (a.L.map (·.1)) := by
  have hi := (List.getElem?_eq_some_iff.1 h).1
  have he := (List.getElem?_eq_some_iff.1 h).2
  unfold wtW
  rw [List.take_succ_eq_append_getElem hi, he]
  simp
theorem wtW_le (ac : List AW) (i : Nat) : wtW (ac.take i) ≤ wtW ac := by
  unfold wtW
  conv => rhs; rw [← List.take_append_drop i ac]
  rw [List.map_append, List.sum_append]; omega
end Go.Proofs.YtajapgjemefoiaaGreatDoor
/- How rows of entries and of a log's acts are opened, and their bulk; what the rows of the laws 19 list. -/
set_option linter.unusedVariables false
set_option maxRecDepth 100000
namespace Go.Proofs.YtajapgjemefoiaaGreatDoor
open Go.ChangeShapes Go.WideShapes Go.RowKit Go.SW
def dataW {H : Type} : List (String × DataW H) := [("math/bits.deBruijn32tab", Rows.laid_math_bits_deBruijn32tab), ("math/bits.deBruijn64tab", Rows.laid_math_bits_deBruijn64tab), ("internal/strconv.uint64pow10", Rows.laid_internal_strconv_uint64pow10)]
def laidW {H : Type} : List (String × DataW H) := [("math/bits.deBruijn32tab", Rows.laid_math_bits_deBruijn32tab), ("math/bits.deBruijn64tab", Rows.laid_math_bits_deBruijn64tab), ("internal/strconv.uint64pow10", Rows.laid_internal_strconv_uint64pow10), ("errors.errorType", Rows.laid_errors_errorType)]
theorem handle_of_laidW {W : World} (h : laidMetH Tryz.prog laidW W) : W.cell? ⟨0, 0, none⟩ = some errTy := by
  have h' : laidMet Tryz.prog dataW W ∧ handlesMet Tryz.prog laidL W := h
  have h2 : laidMet Tryz.prog [] W ∧ handlesMet Tryz.prog laidL W := ⟨laidMet_nil _ _, h'.2⟩
  exact handle_of_laid h2
def cellsD : DataW Unit → Array Value
  | .agg ps => (ps.map fun d => match d with | .lit (.int k n) => Value.int k n | _ => .nilIface).toArray
  | _ => #[]
def putCells (h : Array Obj) (g : Nat) (cs : Array Value) : Array Obj := h.modify g fun
  | .cells _ t frozen => .cells cs t frozen
  | o => o
noncomputable def laidWorldW (os : Os) : World :=
  let w0 := World.holding Tryz.prog os ⟨#[], #[], []⟩
  { w0 with heap := putCells (putCells (putCells (putCells w0.heap 0 #[errTy]) 1 (cellsD Rows.laid_internal_strconv_uint64pow10)) 2 (cellsD Rows.laid_math_bits_deBruijn32tab)) 3 (cellsD Rows.laid_math_bits_deBruijn64tab) }
theorem laidWorldW_met (os : Os) (args : Array Value) : laidMetH Tryz.prog laidW ((laidWorldW os).forCall (fun _ _ => 0) ⟨#[], args, []⟩).memory :=
  laidMetH_of_parts (laidMet_of_run' 4 (by kernel_rfl) (by kernel_rfl)) (by kernel_rfl)
theorem uEnts : Tryz.prog.underlying 44 = some (.slice 64) := by kernel_rfl
theorem uEnt : Tryz.prog.underlying 64 = some (.struct (Tryz.prog.fieldsOf 64)) := by kernel_rfl
theorem fEnt : (Tryz.prog.fieldsOf 64).toList.map (fun f => (f.type, f.offset)) = [(3, 0), (3, 1), (3, 2), (37, 3)] := by kernel_rfl
theorem cEnt : Tryz.prog.cellsOf 64 = 4 := by kernel_rfl
theorem cEnts : Tryz.prog.cellsOf 44 = 1 := by kernel_rfl
theorem uActs19 : Tryz.prog.underlying 41 = some (.slice 47) := by kernel_rfl
theorem uAct19 : Tryz.prog.underlying 47 = some (.struct (Tryz.prog.fieldsOf 47)) := by kernel_rfl
theorem fAct19 : (Tryz.prog.fieldsOf 47).toList.map (fun f => (f.type, f.offset)) = [(3, 0), (3, 1), (3, 2), (44, 3), (45, 4), (9, 5), (37, 6)] := by kernel_rfl
theorem cAct19 : Tryz.prog.cellsOf 47 = 7 := by kernel_rfl
section
variable {H : Type} {enc : TypeId × Value → H} {w : World} {base : Nat} {spare : Nat → Bool} {held : Bool}
theorem open_entry {fuel : Nat} {cs : List Value} {x : DataW H × List MemPlace} (h : DataW.trod enc Tryz.prog w base spare held fuel 64 cs = some x) :
    ∃ q : EA × Value, cs = eiC q ∧ (RB w.cell? q.2 q.1.d ∧ EAok q.1) ∧ 5 + q.1.d.length ≤ Rows.uptoBulk x.1 := by
  obtain ⟨xs, n, rfl, hl, hxl, hp⟩ := struct_parts uEnt _ fEnt h
  rw [cEnt] at hl
  match cs, hl with
  | [c0, c1, c2, c3], _ =>
  match xs, hxl with
  | [x0, x1, x2, x3], _ =>
  have h0 := hp 0 _ _ rfl
  have h1 := hp 1 _ _ rfl
  have h2 := hp 2 _ _ rfl
  have h3 := hp 3 _ _ rfl
  simp only [cInt, cBytes, List.drop_zero, List.drop_succ_cons, List.take_succ_cons, List.take_zero, List.getElem?_cons_zero, List.getElem?_cons_succ] at h0 h1 h2 h3
  obtain ⟨i, e0, rfl, w0⟩ := DataW.trod_int uInt h0
  obtain ⟨t, e1, rfl, w1⟩ := DataW.trod_int uInt h1
  obtain ⟨k, e2, rfl, w2⟩ := DataW.trod_int uInt h2
  obtain ⟨vb, b, e3, r3, s3⟩ := open_bytesU uBytes uU8 cU8 zU8 h3
  cases e0; cases e1; cases e2; cases e3
  refine ⟨(⟨i, t, k, b⟩, _), rfl, ⟨r3, (wf_i64 w0).2, (wf_i64 w1).2, (wf_i64 w2).2⟩, ?_⟩
  simp only [List.map_cons, List.map_nil, Rows.uptoBulk, Rows.uptoBulkAll]
  omega
theorem open_entries {fuel : Nat} {cs : List Value} {x : DataW H × List MemPlace} (h : DataW.trod enc Tryz.prog w base spare held fuel 44 cs = some x) :
    ∃ (v : Value) (L : EI), cs = [v] ∧ Row w.cell? v 4 L.length (rowC eiC L) ∧ (∀ q ∈ L, RB w.cell? q.2 q.1.d ∧ EAok q.1) ∧ wtA (L.map (·.1)) + 1 ≤ Rows.uptoBulk x.1 := by
  obtain ⟨v', L, ys, e, hR, _, hly, hL, hbk⟩ := open_rowU uEnts cEnt h
  obtain ⟨ac, rfl, hok, hs⟩ := rows_choose (f := eiC) (Q := fun q => RB w.cell? q.2 q.1.d ∧ EAok q.1) (g := fun q : EA × Value => 5 + q.1.d.length) L ys hly (fun i c hi => by
    obtain ⟨f', y, hy, ht⟩ := hL i c hi
    obtain ⟨a, e1, e2, e3⟩ := open_entry ht
    exact ⟨y.1, a, hy, e1, e2, e3⟩)
  refine ⟨v', ac, e, by rw [List.length_map] at hR; exact hR, hok, ?_⟩
  unfold wtA
  rw [List.map_map]
  have e2 : ((fun e : EA => 5 + e.d.length) ∘ fun q : EA × Value => q.1) = fun q : EA × Value => 5 + q.1.d.length := rfl
  rw [e2]
  omega
theorem rb_cell {c : Zone} {v : Value} {l : List UInt8} (h : RB c v l) : v.oneCell' = true := by
  obtain ⟨A, cp, e, _, _⟩ := h.row.form
  rw [e]; rfl
theorem open_act19 {fuel : Nat} {cs : List Value} {x : DataW H × List MemPlace} (h : DataW.trod enc Tryz.prog w base spare held fuel 47 cs = some x) :
    ∃ a : AW, cs = awC a ∧ AwOk w.cell? a ∧ wtA (a.L.map (·.1)) ≤ Rows.uptoBulk x.1 := by
  obtain ⟨xs, n, rfl, hl, hxl, hp⟩ := struct_parts uAct19 _ fAct19 h
  rw [cAct19] at hl
  match cs, hl with
  | [c0, c1, c2, c3, c4, c5, c6], _ =>
  match xs, hxl with
  | [x0, x1, x2, x3, x4, x5, x6], _ =>
  have h0 := hp 0 _ _ rfl
  have h1 := hp 1 _ _ rfl
  have h2 := hp 2 _ _ rfl
  have h3 := hp 3 _ _ rfl
  have h4 := hp 4 _ _ rfl
  have h5 := hp 5 _ _ rfl
  have h6 := hp 6 _ _ rfl
  simp only [cInt, cBytes, cStr, cInts, cEnts, List.drop_zero, List.drop_succ_cons, List.take_succ_cons, List.take_zero, List.getElem?_cons_zero, List.getElem?_cons_succ] at h0 h1 h2 h3 h4 h5 h6
  obtain ⟨d, e0, rfl, w0⟩ := DataW.trod_int uInt h0
  obtain ⟨n1, e1, rfl, w1⟩ := DataW.trod_int uInt h1
  obtain ⟨m1, e2, rfl, w2⟩ := DataW.trod_int uInt h2
  obtain ⟨vl, L, e3, r3, k3, s3⟩ := open_entries h3
  obtain ⟨vk, ks, e4, r4, _⟩ := open_numsU uIntsU uInt cInt h4
  obtain ⟨nm, e5, _, _⟩ := open_strU uStr h5
  obtain ⟨vb, b, e6, r6, _⟩ := open_bytesU uBytes uU8 cU8 zU8 h6
  cases e0; cases e1; cases e2; cases e3; cases e4; cases e5; cases e6
  refine ⟨⟨d, n1, m1, _, L, _, ks, nm, _⟩, rfl, ⟨r3, fun q hq => (k3 q hq).1, fun q hq => (k3 q hq).2, r4, (wf_i64 w1).2, (wf_i64 w2).2, rb_cell r6⟩, ?_⟩
  simp only [List.map_cons, List.map_nil, Rows.uptoBulk, Rows.uptoBulkAll]
  omega
variable {r : Reach} {b0 : Nat} {v : Value} {d : DataW H} {pl : List MemPlace}
theorem open_acts19 (hval : Value.okWide Tryz.prog w r b0 41 v) (h : DataW.Trod enc Tryz.prog w base spare held 41 v d pl) :
    ∃ ac : List AW, Row w.cell? v 7 ac.length (rowC awC ac) ∧ (∀ a ∈ ac, AwOk w.cell? a) ∧ wtW ac ≤ Rows.uptoBulk d := by
  obtain ⟨fuel, h⟩ := h
  obtain ⟨v', L, ys, e, hR, _, hly, hL, hbk⟩ := open_rowU uActs19 cAct19 h
  rw [one_cell uActs19 hval] at e
  cases e
  obtain ⟨ac, rfl, hok, hs⟩ := rows_choose (f := awC) (Q := AwOk w.cell?) (g := fun a => wtA (a.L.map (·.1))) L ys hly (fun i c hi => by
    obtain ⟨f', y, hy, ht⟩ := hL i c hi
    obtain ⟨a, e1, e2, e3⟩ := open_act19 ht
    exact ⟨y.1, a, hy, e1, e2, e3⟩)
  refine ⟨ac, by rw [List.length_map] at hR; exact hR, hok, ?_⟩
  unfold wtW
  simp only at hbk
  omega
theorem open_act19V (hval : Value.okWide Tryz.prog w r b0 47 v) (h : DataW.Trod enc Tryz.prog w base spare held 47 v d pl) :
    ∃ a : AW, v = .agg #[.int .i64 a.dv, .int .i64 a.n, .int .i64 a.m, a.vl, a.vk, .string (bs a.nm), a.vb] ∧ AwOk w.cell? a ∧ wtA (a.L.map (·.1)) ≤ Rows.uptoBulk d := by
  obtain ⟨fuel, h⟩ := h
  obtain ⟨a, e, h1, h2⟩ := open_act19 h
  unfold Value.okWide at hval
  rw [uAct19] at hval
  obtain ⟨cs, rfl, _, _⟩ := hval
  refine ⟨a, ?_, h1, h2⟩
  have e9 : cs.toList = awC a := by simpa [Value.cells] using e
  have : cs = #[.int .i64 a.dv, .int .i64 a.n, .int .i64 a.m, a.vl, a.vk, .string (bs a.nm), a.vb] := Array.toList_inj.1 e9
  rw [this]
end
end Go.Proofs.YtajapgjemefoiaaGreatDoor
/- Laws 19: small: what it answers. -/
set_option maxRecDepth 100000
set_option maxHeartbeats 4000000
set_option linter.unusedVariables false
set_option linter.unusedSimpArgs false
namespace Go.Proofs.YtajapgjemefoiaaGreatDoor
open Go.RowKit Go.SW
abbrev ea1 : EA := ⟨1, 2, 0, [97]⟩
abbrev ea2 : EA := ⟨2, 2, 0, [98]⟩
abbrev ea3 : EA := ⟨2, 3, 0, [99]⟩
abbrev ea4 : EA := ⟨4, 3, 0, []⟩
abbrev cnA : Cn := ⟨2, 1, 0, 0, [⟨1, 2, 0, [97]⟩, ⟨2, 2, 0, [98]⟩]⟩
abbrev cnB : Cn := ⟨2, 1, 0, 0, [⟨1, 2, 0, [97]⟩, ⟨2, 3, 0, [99]⟩]⟩
theorem ea_bd {ix tm : Int} {d : List UInt8} (h1 : ix ≤ 4) (h2 : tm ≤ 3) : EAok ⟨ix, tm, 0, d⟩ := ⟨by simp only; omega, by simp only; omega, by simp only; omega⟩
theorem saveB_ne {c : Cn} {T V : Nat} {e : EA} {es : List EA} (h1 : EAok e) (hd : e.d.length ≤ 65536) : saveB c T V ((e :: es).map EA.en) ≠ [] := by
  intro h
  have h2 := congrArg List.length h
  unfold saveB at h2
  rw [List.length_append, List.map_cons, List.map_cons] at h2
  have h3 : recsB (enR e.en :: (es.map EA.en).map enR) = recB (enR e.en) ++ recsB ((es.map EA.en).map enR) := rfl
  rw [h3, List.length_append, recB_eq (en_ok h1 hd), frameB_length] at h2
  simp only [List.length_nil] at h2
  omega
theorem row_rs {c : Zone} {v : Value} {rs : EQ} (h : Row c v 4 rs.length (rowC enC rs)) : Row c v 4 (eiN rs).length (rowC eiC (eiN rs)) := by rw [← row_eiN, eiN_len]; exact h
theorem rs_one {rs : EQ} {e : En} (h : rs.map (·.1) = [e]) : ∃ v, rs[0]? = some (e, v) ∧ rs.length = 1 := by
  match rs, h with
  | [(x, v)], h => exact ⟨v, by simp at h; simp [h], rfl⟩

theorem save_no4 {D : Dsk} {l : Lg} (hc : l.c = cnB) (hb : l.bad = 0) {R : Dsk × Lg × Nat} (h : saveL D l 2 1 [ea4] = R) : R = (D, l, 1) := by
  rw [← h]
  exact saveL_none hb (by rw [hc]; rfl)

theorem Small19_ct (w : World) (hG : w.cell? ⟨0, 0, none⟩ = some errTy) :
    Fun Tryz.prog 7 [] w fun v w' => v = .bool true ∧ Fresh w w' [] := by
 refine fun_of_sw Tryz.func7 rfl 87 rfl rfl ?_
 have hH := Hp.start w
 refine sw_sr ?_
 refine glo 1 [] ?_
 refine gl_dn rfl ?_
 refine sw_sr ?_
 refine gl_st (st_call rfl rfl rfl (by kernel_rfl) rfl (DNew_ct _) ?_)
 rintro _ w3 ⟨db1, mb2, rfl, hF4⟩
 replace hH := hH.call hF4; clear hF4
 refine glo 1 [(1, Pp db1 0)] ?_
 refine gl_dn rfl ?_
 refine sw_seq ?_
 refine sw_sr ?_
 refine glo 2 [(1, Pp db1 0), (11, .bool false)] ?_
 refine gl_dn rfl ?_
 refine sw_false rfl rfl ?_
 refine sw_skip ?_
 refine sw_next ?_
 refine sw_sr ?_
 refine glo 1 [(1, Pp db1 0), (13, Pp db1 0)] ?_
 replace hH : Hp w w3 _ _ ([_] ++ []) := hH
 refine gl_st (st_call rfl rfl rfl (by kernel_rfl) rfl (OpenNew_ct hH.mine) ?_)
 rintro _ w12 ⟨g5, es6, ve7, pl8, pe9, rfl, ⟨hL10, hR11⟩, hF13⟩
 replace hH := hH.turns hF13; clear hF13
 replace hH : Hp w w12 _ _ [_, _, _] := hH
 refine glo 5 [(1, Pp db1 0), (2, Pp g5 0), (3, .nilIface)] ?_
 refine gl_dn rfl ?_
 refine sw_seq ?_
 refine sw_sr ?_
 refine glo 6 [(1, Pp db1 0), (2, Pp g5 0), (22, .bool false)] ?_
 refine gl_dn rfl ?_
 refine sw_false rfl rfl ?_
 refine sw_skip ?_
 refine sw_next ?_
 refine sw_sr ?_
 refine glo 1 [(1, Pp db1 0), (2, Pp g5 0), (23, Pp g5 0)] ?_
 refine gl_st (st_buildS (e := 5) (zv := .int .u8 0) (m := 1) (bytes := 1) rfl rfl rfl (by kernel_rfl) (by kernel_rfl) rfl (cs := [.int .u8 97]) (by kernel_rfl) rfl hH ?_)
 clear hH; intro b14 w15 hH
 replace hH := hH.row_eq 3 (l' := 1) (xs' := bv [97]) rfl (rfl) (rfl)
 refine gl_st (st_convB (e := 5) 3 rfl rfl rfl (by kernel_rfl) (by kernel_rfl) hH rfl rfl ?_)
 clear hH; intro w16 hH
 refine glo 1 [(1, Pp db1 0), (2, Pp g5 0), (23, Pp g5 0), (26, .agg #[.int .i64 1, .int .i64 2, .int .i64 0, .slice (some ⟨b14, 0, none⟩) 1 1])] ?_
 refine gl_st (st_buildS (e := 5) (zv := .int .u8 0) (m := 1) (bytes := 1) rfl rfl rfl (by kernel_rfl) (by kernel_rfl) rfl (cs := [.int .u8 98]) (by kernel_rfl) rfl hH ?_)
 clear hH; intro b17 w18 hH
 replace hH := hH.row_eq 4 (l' := 1) (xs' := bv [98]) rfl (rfl) (rfl)
 refine gl_st (st_convB (e := 5) 4 rfl rfl rfl (by kernel_rfl) (by kernel_rfl) hH rfl rfl ?_)
 clear hH; intro w19 hH
 refine glo 1 [(1, Pp db1 0), (2, Pp g5 0), (23, Pp g5 0), (26, .agg #[.int .i64 1, .int .i64 2, .int .i64 0, .slice (some ⟨b14, 0, none⟩) 1 1]), (29, .agg #[.int .i64 2, .int .i64 2, .int .i64 0, .slice (some ⟨b17, 0, none⟩) 1 1])] ?_
 refine gl_st (st_buildS (e := 64) (zv := .agg #[.int .i64 0, .int .i64 0, .int .i64 0, .slice none 0 0]) (m := 4) (bytes := 48) rfl rfl rfl (by kernel_rfl) (by kernel_rfl) rfl (cs := [.int .i64 1, .int .i64 2, .int .i64 0, .slice (some ⟨b14, 0, none⟩) 1 1, .int .i64 2, .int .i64 2, .int .i64 0, .slice (some ⟨b17, 0, none⟩) 1 1]) (by kernel_rfl) rfl hH ?_)
 clear hH; intro b20 w21 hH
 replace hH : Hp w w21 _ _ ([_, _, _] ++ [_, _, _]) := hH
 refine gl_st (st_call rfl rfl rfl (by kernel_rfl) rfl (SaveI_ct g5 2 1 _ _ es6 [((ea1 : EA), Value.slice (some ⟨b14, 0, none⟩) 1 1), ((ea2 : EA), Value.slice (some ⟨b17, 0, none⟩) 1 1)] pl8 pe9 hH.mine logI_new (by omega) (by simp [wtA]) hL10 (zoff_row (mine := [lgI g5 db1 newL ve7, plO pl8, dkI db1 mb2 0 newD pe9]) hH 2 rfl) (by intro q hq; simp only [List.mem_cons, List.not_mem_nil, or_false] at hq; rcases hq with rfl | rfl; exact zoff_mkd (mine := [lgI g5 db1 newL ve7, plO pl8, dkI db1 mb2 0 newD pe9]) hH 0 rfl rfl (Nat.le_refl _) (by simp [maxLen]); exact zoff_mkd (mine := [lgI g5 db1 newL ve7, plO pl8, dkI db1 mb2 0 newD pe9]) hH 1 rfl rfl (Nat.le_refl _) (by simp [maxLen])) (by intro q hq; simp only [List.mem_cons, List.not_mem_nil, or_false] at hq; rcases hq with rfl | rfl <;> exact ea_bd (by decide) (by decide)) (by omega) (by omega) hR11) ?_)
 rintro _ w33 ⟨D22, l23, er24, es25, ve26, pl27, pe28, rfl, ⟨hs29, hI30, hL31, hR32⟩, hF34⟩
 replace hH := hH.turns hF34; clear hF34
 replace hH : Hp w w33 _ _ [_, _, _, _, _, _] := hH
 have hI35 := hI30.mono (show _ ≤ 1 by omega) (show _ ≤ 1000 by simp [wtA])
 have hp1 : putsA Cn.zero [ea1, ea2] = some ⟨0, 0, 0, 0, cnA.es⟩ := by rfl
 obtain ⟨heA, hcA⟩ := save_yes (c' := ⟨0, 0, 0, 0, cnA.es⟩) logI_new (by omega) (t := 2) (v := 1) (by omega) (by omega) (by intro q hq; simp only [List.mem_cons, List.not_mem_nil, or_false] at hq; rcases hq with rfl | rfl <;> exact ea_bd (by decide) (by decide)) hp1 (by rfl) (saveB_ne (ea_bd (by decide) (by decide)) (by decide)) hs29
 simp only at heA hcA
 replace hcA : l23.c = cnA := hcA
 refine glo 1 [(1, Pp db1 0), (2, Pp g5 0), (4, errV er24)] ?_
 refine gl_dn rfl ?_
 refine sw_sr ?_
 refine glo 1 [(1, Pp db1 0), (2, Pp g5 0), (4, errV er24), (32, Pp g5 0)] ?_
 refine gl_st (st_buildS (e := 5) (zv := .int .u8 0) (m := 1) (bytes := 1) rfl rfl rfl (by kernel_rfl) (by kernel_rfl) rfl (cs := [.int .u8 99]) (by kernel_rfl) rfl hH ?_)
 clear hH; intro b36 w37 hH
 replace hH := hH.row_eq 6 (l' := 1) (xs' := bv [99]) rfl (rfl) (rfl)
 refine gl_st (st_convB (e := 5) 6 rfl rfl rfl (by kernel_rfl) (by kernel_rfl) hH rfl rfl ?_)
 clear hH; intro w38 hH
 refine glo 1 [(1, Pp db1 0), (2, Pp g5 0), (4, errV er24), (32, Pp g5 0), (35, .agg #[.int .i64 2, .int .i64 3, .int .i64 0, .slice (some ⟨b36, 0, none⟩) 1 1])] ?_
 refine gl_st (st_buildS (e := 64) (zv := .agg #[.int .i64 0, .int .i64 0, .int .i64 0, .slice none 0 0]) (m := 4) (bytes := 48) rfl rfl rfl (by kernel_rfl) (by kernel_rfl) rfl (cs := [.int .i64 2, .int .i64 3, .int .i64 0, .slice (some ⟨b36, 0, none⟩) 1 1]) (by kernel_rfl) rfl hH ?_)
 clear hH; intro b39 w40 hH
 replace hH : Hp w w40 _ _ ([_, _, _] ++ [_, _, _, _, _]) := hH.fr6.fr6.fr6
 refine gl_st (st_call rfl rfl rfl (by kernel_rfl) rfl (SaveI_ct g5 2 1 _ _ es25 [((ea3 : EA), Value.slice (some ⟨b36, 0, none⟩) 1 1)] pl27 pe28 hH.mine hI35 (by omega) (by simp [wtA]) hL31 (zoff_row (mine := [lgI g5 db1 l23 ve26, plO pl27, dkI db1 mb2 0 D22 pe28]) hH 4 rfl) (by intro q hq; simp only [List.mem_cons, List.not_mem_nil, or_false] at hq; subst hq; exact zoff_mkd (mine := [lgI g5 db1 l23 ve26, plO pl27, dkI db1 mb2 0 D22 pe28]) hH 3 rfl rfl (Nat.le_refl _) (by simp [maxLen])) (by intro q hq; simp only [List.mem_cons, List.not_mem_nil, or_false] at hq; subst hq <;> exact ea_bd (by decide) (by decide)) (by omega) (by omega) hR32) ?_)
 rintro _ w52 ⟨D41, l42, er43, es44, ve45, pl46, pe47, rfl, ⟨hs48, hI49, hL50, hR51⟩, hF53⟩
 replace hH := hH.turns hF53; clear hF53
 replace hH : Hp w w52 _ _ [_, _, _, _, _, _, _, _] := hH
 have hI54 := hI49.mono (show _ ≤ 2 by omega) (show _ ≤ 3000 by simp [wtA])
 have hp2 : putsA l23.c [ea3] = some cnB := by rw [hcA]; rfl
 obtain ⟨heB, hcB⟩ := save_yes (c' := cnB) hI35 (by omega) (t := 2) (v := 1) (by omega) (by omega) (by intro q hq; simp only [List.mem_cons, List.not_mem_nil, or_false] at hq; rcases hq with rfl <;> exact ea_bd (by decide) (by decide)) hp2 (by rfl) (saveB_ne (ea_bd (by decide) (by decide)) (by decide)) hs48
 simp only at heB hcB
 replace hcB : l42.c = cnB := hcB
 refine glo 1 [(1, Pp db1 0), (2, Pp g5 0), (4, errV er24), (5, errV er43)] ?_
 refine gl_dn rfl ?_
 refine sw_sr ?_
 refine glo 2 [(1, Pp db1 0), (2, Pp g5 0), (4, errV er24), (5, errV er43), (38, Pp g5 0), (39, .agg #[.int .i64 4, .int .i64 3, .int .i64 0, .slice none 0 0])] ?_
 refine gl_st (st_buildS (e := 64) (zv := .agg #[.int .i64 0, .int .i64 0, .int .i64 0, .slice none 0 0]) (m := 4) (bytes := 48) rfl rfl rfl (by kernel_rfl) (by kernel_rfl) rfl (cs := [.int .i64 4, .int .i64 3, .int .i64 0, .slice none 0 0]) (by kernel_rfl) rfl hH ?_)
 clear hH; intro b55 w56 hH
 replace hH : Hp w w56 _ _ [_, _, _, _, _, _, _, _, _] := hH
 replace hH : Hp w w56 _ _ ([_, _, _] ++ [_, _, _, _, _, _]) := hH.fr8.fr8.fr8
 refine gl_st (st_call rfl rfl rfl (by kernel_rfl) rfl (SaveI_ct g5 2 1 _ _ es44 [((ea4 : EA), Value.slice none 0 0)] pl46 pe47 hH.mine hI54 (by omega) (by simp [wtA]) hL50 (zoff_row (mine := [lgI g5 db1 l42 ve45, plO pl46, dkI db1 mb2 0 D41 pe47]) hH 5 rfl) (by intro q hq; simp only [List.mem_cons, List.not_mem_nil, or_false] at hq; subst hq; exact RB.nil _) (by intro q hq; simp only [List.mem_cons, List.not_mem_nil, or_false] at hq; subst hq <;> exact ea_bd (by decide) (by decide)) (by omega) (by omega) hR51) ?_)
 rintro _ w68 ⟨D57, l58, er59, es60, ve61, pl62, pe63, rfl, ⟨hs64, hI65, hL66, hR67⟩, hF69⟩
 replace hH := hH.turns hF69; clear hF69
 replace hH : Hp w w68 _ _ [_, _, _, _, _, _, _, _, _] := hH
 have hI70 := hI65.mono (show _ ≤ 3 by omega) (show _ ≤ 9000 by simp [wtA])
 have hp4 := save_no4 hcB hI54.bad hs64
 have heC : er59 = 1 := congrArg (fun x => x.2.2) hp4
 have hcC : l58.c = cnB := by have h9 := congrArg (fun x => x.2.1) hp4; simp only at h9; rw [h9]; exact hcB
 replace hH : Hp w w68 _ _ [_, _, _, _, _, _, _, _, _] := hH
 refine glo 1 [(1, Pp db1 0), (2, Pp g5 0), (4, errV er24), (5, errV er43), (6, errV er59)] ?_
 refine gl_dn rfl ?_
 refine sw_sr ?_
 refine glo 1 [(1, Pp db1 0), (2, Pp g5 0), (4, errV er24), (5, errV er43), (6, errV er59), (42, Pp g5 0)] ?_
 replace hH : Hp w w68 _ _ ([_, _, _] ++ [_, _, _, _, _, _]) := hH.fr9.fr9.fr9
 refine gl_st (st_call rfl rfl rfl (by kernel_rfl) rfl (CompactI_ct g5 1 2 _ es60 pl62 pe63 hH.mine hI70 (by omega) (by omega) hL66 (by omega) (by omega) hR67) ?_)
 rintro _ w82 ⟨D71, l72, er73, es74, ve75, pl76, pe77, rfl, ⟨hs78, hI79, hL80, hR81⟩, hF83⟩
 replace hH := hH.turns hF83; clear hF83
 replace hH : Hp w w82 _ _ [_, _, _, _, _, _, _, _, _] := hH
 obtain ⟨heD, hcD, hfD⟩ := compact_yes (a := 1) (t := 2) hI70 (by omega) (by omega) (by omega) hs78
 simp only at heD hcD hfD
 replace hcD : l72.c.es = [⟨2, 3, 0, [99]⟩] := by rw [hcD, hcC]; rfl
 replace hH : Hp w w82 _ _ [_, _, _, _, _, _, _, _, _] := hH
 refine glo 1 [(1, Pp db1 0), (2, Pp g5 0), (4, errV er24), (5, errV er43), (6, errV er59), (7, errV er73)] ?_
 refine gl_dn rfl ?_
 refine sw_sr ?_
 refine glo 1 [(1, Pp db1 0), (4, errV er24), (5, errV er43), (6, errV er59), (7, errV er73), (44, Pp g5 0)] ?_
 refine gl_st (st_call rfl rfl rfl (by kernel_rfl) rfl (Entries_ct g5 _ es74 _ (hH.blk_cell 6 rfl rfl) (hL80.row.mono (pz_le hH 7 rfl)) (fun q hq => (hL80.ok q hq).1.d.mono (pz_le hH 7 rfl)) (fun q hq => (hL80.ok q hq).2) (by have h9 := hL80.len; have h8 := hI79.cnt; omega)) ?_)
 rintro _ w89 ⟨v84, rs85, rfl, hrs86, hF90⟩
 replace hH := hH.call hF90; clear hF90
 rw [hL80.fst] at hrs86
 rw [hcD] at hrs86
 obtain ⟨v9, hr0, hrl⟩ := rs_one hrs86
 obtain ⟨A91, c92, rfl, hl93, hm94⟩ := hH.row_form 9 rfl
 replace hH : Hp w w89 _ _ [_, _, _, _, _, _, _, _, _, _, _] := hH
 refine glo 1 [(1, Pp db1 0), (4, errV er24), (5, errV er43), (6, errV er59), (7, errV er73), (8, .slice A91 rs85.length c92)] ?_
 refine gl_dn rfl ?_
 refine sw_sr ?_
 refine glo 1 [(1, Pp db1 0), (5, errV er43), (6, errV er59), (7, errV er73), (8, .slice A91 rs85.length c92), (46, errV er24)] ?_
 refine gl_q rfl rfl rfl (rd_err_eq (by kernel_rfl) rfl) ?_
 refine gl_cv 47 (.bool true) (by rw [heA]; rfl) rfl ?_
 refine glo 2 [(1, Pp db1 0), (6, errV er59), (7, errV er73), (8, .slice A91 rs85.length c92), (48, .bool true), (49, errV er43)] ?_
 refine gl_q rfl rfl rfl (rd_err_eq (by kernel_rfl) rfl) ?_
 refine gl_cv 50 (.bool true) (by rw [heB]; rfl) rfl ?_
 refine glo 3 [(1, Pp db1 0), (7, errV er73), (8, .slice A91 rs85.length c92), (52, .bool true), (53, errV er59)] ?_
 refine gl_st (st_call rfl rfl rfl (by kernel_rfl) rfl (Code_ct er59 _ (hH.zin _ _ hG)) ?_)
 rintro _ w95 ⟨rfl, hF96⟩
 replace hH := hH.call hF96; clear hF96
 replace hH : Hp w w95 _ _ [_, _, _, _, _, _, _, _, _, _, _] := hH
 refine glo 1 [(1, Pp db1 0), (7, errV er73), (8, .slice A91 rs85.length c92), (52, .bool true), (55, .bool (((er59 : Nat) : Int) == (1 : Int)))] ?_
 refine gl_cv 55 (.bool true) (by rw [heC]; rfl) rfl ?_
 refine glo 3 [(1, Pp db1 0), (8, .slice A91 rs85.length c92), (57, .bool true), (58, errV er73)] ?_
 refine gl_q rfl rfl rfl (rd_err_eq (by kernel_rfl) rfl) ?_
 refine gl_cv 59 (.bool true) (by rw [heD]; rfl) rfl ?_
 refine glo 3 [(1, Pp db1 0), (8, .slice A91 rs85.length c92), (61, .bool true), (62, .slice A91 rs85.length c92)] ?_
 refine gl_q rfl rfl rfl (rd_len (e := 64) (by kernel_rfl) rfl) ?_
 refine glo 1 [(1, Pp db1 0), (8, .slice A91 rs85.length c92), (61, .bool true), (64, .bool (((rs85.length : Nat) : Int) == (1 : Int)))] ?_
 refine gl_cv 64 (.bool true) (by rw [hrl]; rfl) rfl ?_
 obtain ⟨b98, hb97, hi99⟩ := hH.row_idx 9 rfl 0 (by omega)
 refine glo 3 [(1, Pp db1 0), (8, .slice A91 rs85.length c92), (66, .bool true), (67, .slice A91 rs85.length c92)] ?_
 refine gl_q rfl rfl rfl (rd_idx (e := 64) (m := 4) (by kernel_rfl) (by kernel_rfl) rfl rfl hi99) ?_
 refine glo 1 [(1, Pp db1 0), (8, .slice A91 rs85.length c92), (66, .bool true), (69, Pp b98 (0 * 4 + 1))] ?_
 refine gl_q rfl rfl rfl (rd_loadO 9 (by kernel_rfl) hH rfl rfl hb97 (rowC_at enC_len hr0 1 (by decide) rfl)) ?_
 obtain ⟨b101, hb100, hi102⟩ := hH.row_idx 9 rfl 0 (by omega)
 refine glo 4 [(1, Pp db1 0), (73, .bool true), (74, .slice A91 rs85.length c92)] ?_
 refine gl_q rfl rfl rfl (rd_idx (e := 64) (m := 4) (by kernel_rfl) (by kernel_rfl) rfl rfl hi102) ?_
 obtain ⟨A9, c9, rfl, _, _⟩ := (show RB _ v9 [99] from enRows_rb hH 10 rfl _ (List.mem_of_getElem? hr0)).row.form
 refine glo 1 [(1, Pp db1 0), (73, .bool true), (76, Pp b101 (0 * 4 + 3))] ?_
 refine gl_q rfl rfl rfl (rd_loadO 9 (by kernel_rfl) hH rfl rfl hb100 (rowC_at enC_len hr0 3 (by decide) rfl)) ?_
 refine gl_q rfl rfl rfl (rd_str (e := 5) (by kernel_rfl) (by kernel_rfl) (by kernel_rfl) rfl (show RB _ _ [99] from enRows_rb hH 10 rfl _ (List.mem_of_getElem? hr0))) ?_
 refine gl_q rfl rfl rfl (rd_seql (by kernel_rfl) rfl rfl) ?_
 refine gl_cv 79 (.bool true) (by rfl) rfl ?_
 refine glo 3 [(81, .bool true), (82, Pp db1 0)] ?_
 replace hH : Hp w w95 _ _ ([_] ++ [_, _, _, _, _, _, _, _, _, _]) := hH.fr9
 refine gl_st (st_call rfl rfl rfl (by kernel_rfl) rfl (Files_ct db1 mb2 0 D71 pe77 _ _ hH.mine hR81 hI79.good (by omega) (by have := hI79.few; omega)) ?_)
 rintro _ w108 ⟨v103, fs104, rfl, hfs105, hF109⟩
 replace hH := hH.turns hF109; clear hF109
 replace hH : Hp w w108 _ _ [_, _, _, _, _, _, _, _, _, _, _, _, _] := hH
 have hfl : fs104.length = 1 := by have h9 := congrArg List.length hfs105; rw [List.length_map] at h9; omega
 obtain ⟨A110, c111, rfl, hl112, hm113⟩ := hH.row_form 11 rfl
 replace hH : Hp w w108 _ _ [_, _, _, _, _, _, _, _, _, _, _, _, _] := hH
 refine gl_q rfl rfl rfl (rd_len (e := 83) (by kernel_rfl) rfl) ?_
 refine glo 1 [(81, .bool true), (85, .bool (((fs104.length : Nat) : Int) == (1 : Int)))] ?_
 refine gl_cv 85 (.bool true) (by rw [hfl]; rfl) rfl ?_
 refine glo 2 [(0, .bool true)] ?_
 refine gl_dn rfl ?_
 refine sw_ret ?_
 refine ret1 rfl rfl  ?_
 exact ⟨rfl, (hH.sublist sln).fresh⟩
end Go.Proofs.YtajapgjemefoiaaGreatDoor
