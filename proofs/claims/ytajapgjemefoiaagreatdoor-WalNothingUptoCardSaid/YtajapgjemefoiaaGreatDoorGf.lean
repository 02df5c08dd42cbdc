/- Gf: several texts in one. -/
import Derived.Test.YtajapgjemefoiaaGreatDoorGd
import Derived.Test.YtajapgjemefoiaaGreatDoorGe
import Derived.Test.YtajapgjemefoiaaGreatDoorSort
import Derived.Test.YtajapgjemefoiaaGreatDoorShelf
import Derived.Test.YtajapgjemefoiaaGreatDoorGc
/- Layer 19 (wal): what is saved or compacted is on the disk, and is opened again. Plain mathematics. -/
set_option linter.unusedVariables false
namespace Go.Proofs.YtajapgjemefoiaaGreatDoor
open Go.SW Go.RowKit
theorem nameF_len (k : Nat) : (nameF k).length = 3 + (decB k).length := by unfold nameF; rw [List.length_append]; rfl
theorem nameB_nameF {k : Nat} (h : k < 1000000000) : nameB (nameF k) = true := by
  have hl := dec_len h
  have hd := dec_digits k
  have hlen := nameF_len k
  unfold nameB
  rw [decide_eq_true_eq]
  refine ⟨nameN_none fun j hj => ?_, by omega, by omega⟩
  match j, hj with
  | 0, _ => exact ok_let rfl
  | 1, _ => exact ok_let rfl
  | 2, _ => exact ok_let rfl
  | j + 3, hj =>
    have h2 : j < (decB k).length := by omega
    have h3 := List.all_eq_true.1 hd (decB k)[j] (List.getElem_mem h2)
    have e : gb (nameF k) (j + 3) = (decB k)[j].toNat := by
      unfold gb nameF
      rw [List.getD_eq_getElem?_getD, List.getElem?_append_right (by simp), List.getElem?_eq_getElem (by simpa using h2)]
      rfl
    refine ok_dig (by omega) ?_
    rw [e]
    simpa [digN] using h3
theorem cut_quiet {D : Dsk} (ha : D.ar = none) : cutD D = (D, false, 0) := by unfold cutD; rw [ha]
theorem doD_quiet {D : Dsk} (ha : D.ar = none) {kind : Nat} {nm p : List UInt8} {n : Int} (hm : mayE D nm (decide (kind ≠ 0 ∧ kind ≠ 2)) = 0) (h3 : ¬ (kind = 3 ∧ (n < 0 ∨ ((oldF D.fs nm).b.length : Int) < n))) : doD D kind nm p n = ({ D with fs := doF D.fs kind nm p n.toNat }, 0) := by
  rw [doD_ok (th := decide (kind ≠ 0 ∧ kind ≠ 2)) rfl hm h3 (cut_quiet ha)]
  rw [if_pos (.inl rfl), if_neg (fun h => by cases h.1)]
  rfl
theorem may_log {D : Dsk} (h : D.off = false) {k : Nat} (hk : k < 1000000000) : mayE D (nameF k) false = 0 := by
  unfold mayE
  rw [if_neg (by rw [h]; simp), if_neg (by rw [nameB_nameF hk]; simp), if_neg (fun h => by cases h.1)]
theorem may_log_at {D : Dsk} (h : D.off = false) {k : Nat} (hk : k < 1000000000) {f : Fil} (hf : getF D.fs (nameF k) = some f) : mayE D (nameF k) true = 0 := by
  unfold mayE
  rw [if_neg (by rw [h]; simp), if_neg (by rw [nameB_nameF hk]; simp), if_neg (fun h => by rw [hf] at h; cases h.2)]
theorem segFs_app : ∀ (a b : List (List Rc)) (lo : Nat), segFs lo (a ++ b) = segFs lo a ++ segFs (lo + a.length) b
  | [], b, lo => by simp [segFs]
  | rs :: a, b, lo => by
    rw [List.cons_append, segFs, segFs, segFs_app a b (lo + 1), List.cons_append, List.length_cons, show lo + 1 + a.length = lo + (a.length + 1) by omega]
theorem segFs_name : ∀ (a : List (List Rc)) (lo : Nat), ∀ f ∈ segFs lo a, ∃ j, j < a.length ∧ f.name = nameF (lo + j)
  | [], _ => fun f h => by cases h
  | rs :: a, lo => fun f h => by
    rcases List.mem_cons.1 h with rfl | h
    · exact ⟨0, by simp, rfl⟩
    · obtain ⟨j, h1, h2⟩ := segFs_name a (lo + 1) f h
      exact ⟨j + 1, by simp; omega, by rw [h2, show lo + 1 + j = lo + (j + 1) by omega]⟩
theorem delF_perm {F G : List Fil} (h : F.Perm G) (nm : List UInt8) : (delF F nm).Perm (delF G nm) := h.filter _
theorem delF_off {F : List Fil} {nm : List UInt8} (h : ∀ f ∈ F, f.name ≠ nm) : delF F nm = F := by
  unfold delF
  rw [List.filter_eq_self]
  intro f hf
  simpa using h f hf
theorem delF_segs (a : List (List Rc)) (lo : Nat) {k : Nat} (h : lo + a.length ≤ k) : delF (segFs lo a) (nameF k) = segFs lo a := by
  refine delF_off fun f hf e => ?_
  obtain ⟨j, h1, h2⟩ := segFs_name a lo f hf
  have := nameF_inj (h2.symm.trans e)
  omega
theorem delF_app (F G : List Fil) (nm : List UInt8) : delF (F ++ G) nm = delF F nm ++ delF G nm := by unfold delF; rw [List.filter_append]
theorem delF_self (f : Fil) : delF [f] f.name = [] := by simp [delF]
theorem delF_del (F : List Fil) (nm : List UInt8) : delF (delF F nm) nm = delF F nm := delF_off fun f hf => (mem_del.1 hf).2
theorem getF_perm {F G : List Fil} (hF : Srt F) (h : F.Perm G) {f : Fil} (hf : f ∈ G) : getF F f.name = some f := (getF_some hF).2 ⟨h.mem_iff.2 hf, rfl⟩
theorem set_last {F : List Fil} {lo : Nat} {segs o : List (List Rc)} (hS : Srt F) (hp : F.Perm (segFs lo (segs ++ o))) (ho : o.length ≤ 1) {f : Fil} (hn : f.name = nameF (lo + segs.length)) : (setF F f).Perm (segFs lo segs ++ [f]) := by
  refine (setF_perm hS f).trans (List.Perm.trans ?_ List.perm_append_comm)
  refine List.Perm.cons f ?_
  show (delF F f.name).Perm (segFs lo segs)
  refine (delF_perm hp _).trans ?_
  rw [segFs_app, delF_app, hn, delF_segs _ _ (Nat.le_refl _)]
  have : delF (segFs (lo + segs.length) o) (nameF (lo + segs.length)) = [] := by
    match o, ho with
    | [], _ => rfl
    | [rs], _ => exact delF_self ⟨nameF (lo + segs.length), recsB rs, (recsB rs).length⟩
  rw [this, List.append_nil]
theorem set_twice {F : List Fil} (hS : Srt F) {f g : Fil} (h : f.name = g.name) : setF (setF F f) g = setF F g := by
  refine srt_eq (srt_set (srt_set hS f) g) (srt_set hS g) ?_
  refine (setF_perm (srt_set hS f) g).trans (List.Perm.trans ?_ (setF_perm hS g).symm)
  refine List.Perm.cons g ?_
  refine (delF_perm (setF_perm hS f) _).trans ?_
  rw [show delF (f :: delF F f.name) g.name = delF [f] g.name ++ delF (delF F f.name) g.name from delF_app [f] _ _, ← h, delF_self, delF_del]
  exact List.Perm.refl _
theorem old_last {F : List Fil} {lo : Nat} {segs o : List (List Rc)} (hS : Srt F) (hp : F.Perm (segFs lo (segs ++ o))) (ho : o.length ≤ 1) : oldF F (nameF (lo + segs.length)) = ⟨nameF (lo + segs.length), recsB o.flatten, (recsB o.flatten).length⟩ := by
  match o, ho with
  | [], _ =>
    have : getF F (nameF (lo + segs.length)) = none := getF_none.2 fun f hf e => by
      obtain ⟨j, h1, h2⟩ := segFs_name _ _ f (hp.mem_iff.1 hf)
      have := nameF_inj (h2.symm.trans e)
      rw [List.append_nil] at h1
      omega
    unfold oldF
    rw [this]; rfl
  | [rs], _ =>
    have hm : (⟨nameF (lo + segs.length), recsB rs, (recsB rs).length⟩ : Fil) ∈ segFs lo (segs ++ [rs]) := by
      rw [segFs_app]; exact List.mem_append_right _ List.mem_cons_self
    have := getF_perm hS hp hm
    unfold oldF
    rw [show getF F (nameF (lo + segs.length)) = _ from this]
    simp
theorem sure_segs : ∀ (a : List (List Rc)) (lo : Nat), Sure (segFs lo a)
  | [], _ => fun f h => by cases h
  | rs :: a, lo => fun f h => by
    rcases List.mem_cons.1 h with rfl | h
    · rfl
    · exact sure_segs a (lo + 1) f h
theorem sure_perm {F G : List Fil} (h : F.Perm G) (hs : Sure G) : Sure F := fun f hf => hs f (h.mem_iff.1 hf)
theorem recsB_app (a b : List Rc) : recsB (a ++ b) = recsB a ++ recsB b := by simp [recsB]
theorem doAll_app : ∀ (a b : List Rc) (c : Cn) (f : Bool), a ≠ [] → doAll c (a ++ b) f = (doAll c a f).bind fun c' => doAll c' b false
  | [], _, _, _, h => absurd rfl h
  | [r], b, c, f, _ => by
    show (doC c r f).bind (fun c' => doAll c' b false) = ((doC c r f).bind fun c' => some c').bind _
    cases doC c r f <;> rfl
  | r :: s :: a, b, c, f, _ => by
    have ih := fun c' => doAll_app (s :: a) b c' false (by simp)
    show (doC c r f).bind (fun c' => doAll c' (s :: a ++ b) false) = ((doC c r f).bind fun c' => doAll c' (s :: a) false).bind _
    cases doC c r f with
    | none => rfl
    | some c1 => exact ih c1
theorem doAll_app' {a b : List Rc} {c c1 : Cn} {f : Bool} (h : doAll c a f = some c1) (ha : a ≠ []) : doAll c (a ++ b) f = doAll c1 b false := by rw [doAll_app a b c f ha, h]; rfl
/-- Entries come one by one behind the base; what they say may be written. -/
structure CnOk (c : Cn) : Prop where
  seq : ∀ (j : Nat) (e : En), c.es[j]? = some e → e.ix = c.ix + 1 + j
  es : ∀ e ∈ c.es, RcOk (enR e)
  term : c.term < 9223372036854775808
  vote : c.vote < 9223372036854775808
  ix : c.ix < 9223372036854775808
  ah : c.ah < 9223372036854775808
theorem cnOk_zero : CnOk Cn.zero :=
  ⟨(fun j e h => by cases h), (fun e h => by cases h), (by decide), (by decide), (by decide), (by decide)⟩
theorem putC_some {c c' : Cn} {e : En} (h : putC c e = some c') : c.ix < e.ix ∧ e.ix - 1 ≤ c.ix + c.es.length ∧ c' = { c with es := c.es.take (e.ix - c.ix - 1) ++ [e] } := by
  unfold putC at h
  split at h
  · cases h
  · cases h; exact ⟨by omega, by omega, rfl⟩
theorem cnOk_put {c c' : Cn} {e : En} (h : CnOk c) (he : RcOk (enR e)) (hp : putC c e = some c') : CnOk c' := by
  obtain ⟨h1, h2, rfl⟩ := putC_some hp
  refine ⟨fun j x hx => ?_, fun x hx => ?_, h.term, h.vote, h.ix, h.ah⟩
  · have hl : (c.es.take (e.ix - c.ix - 1)).length = e.ix - c.ix - 1 := by rw [List.length_take]; omega
    simp only at hx ⊢
    by_cases hj : j < e.ix - c.ix - 1
    · rw [List.getElem?_append_left (by omega), List.getElem?_take, if_pos hj] at hx
      exact h.seq j x hx
    · rw [List.getElem?_append_right (by omega), hl] at hx
      have h0 : j - (e.ix - c.ix - 1) = 0 := by
        have := (List.getElem?_eq_some_iff.1 hx).1
        simpa using this
      rw [h0] at hx
      cases hx
      omega
  · rcases List.mem_append.1 hx with hx | hx
    · exact h.es x (List.mem_of_mem_take hx)
    · rw [List.mem_singleton.1 hx]; exact he
theorem rcOk_en {r : Rc} (h : RcOk r) (hk : r.k = 2) : RcOk (enR ⟨r.a, r.b, r.c, r.d⟩) := by
  refine ⟨h.a, h.b, h.c, .inl ⟨rfl, ?_⟩⟩
  rcases h.k with h | h
  · exact h.2
  · omega
theorem cnOk_do {c c' : Cn} {r : Rc} {f : Bool} (h : CnOk c) (hr : RcOk r) (hd : doC c r f = some c') : CnOk c' := by
  unfold doC at hd
  split at hd
  · cases hd
    exact ⟨h.seq, h.es, hr.a, hr.b, h.ix, h.ah⟩
  split at hd
  · rename_i hk
    exact cnOk_put h (rcOk_en hr hk) hd
  split at hd
  · cases hd
    exact ⟨(fun j e h => by cases h), (fun e h => by cases h), h.term, h.vote, hr.a, hr.b⟩
  · cases hd
theorem cnOk_all : ∀ {rs : List Rc} {c c' : Cn} {f : Bool}, CnOk c → (∀ r ∈ rs, RcOk r) → doAll c rs f = some c' → CnOk c'
  | [], c, c', f, h, _, hd => by cases hd; exact h
  | r :: rs, c, c', f, h, hr, hd => by
    obtain ⟨c1, h1, h2⟩ := Option.bind_eq_some_iff.1 (show (doC c r f).bind _ = some c' from hd)
    exact cnOk_all (cnOk_do h (hr r List.mem_cons_self) h1) (fun q hq => hr q (List.mem_cons_of_mem _ hq)) h2
theorem cnOk_len {c : Cn} (h : CnOk c) : c.ix + c.es.length < 9223372036854775808 := by
  rcases Nat.eq_zero_or_pos c.es.length with h0 | h0
  · rw [h0]; exact h.ix
  · have h1 := h.seq (c.es.length - 1) c.es[c.es.length - 1] (List.getElem?_eq_getElem (by omega))
    have h2 := (h.es c.es[c.es.length - 1] (List.getElem_mem _)).a
    simp only [enR] at h2
    omega
theorem logOn_flat {D : Dsk} {l : Lg} {lo : Nat} {segs : List (List Rc)} (h : LogOn D l lo segs) : segs.flatten ≠ [] := by
  obtain ⟨r, rs, ss, rfl, _⟩ := h.base
  simp
theorem LogOn.cn {D : Dsk} {l : Lg} {lo : Nat} {segs : List (List Rc)} (h : LogOn D l lo segs) : CnOk l.c := by
  refine cnOk_all cnOk_zero (fun r hr => ?_) h.c
  obtain ⟨s, hs, hr⟩ := List.mem_flatten.1 hr
  exact h.ok s hs r hr
theorem puts_do : ∀ {es : List EA} {c c' : Cn} (t v : Nat), putsA c es = some c' → doAll { c with term := t, vote := v } (es.map fun e => enR e.en) false = some { c' with term := t, vote := v }
  | [], c, c', t, v, h => by cases h; rfl
  | e :: es, c, c', t, v, h => by
    rw [putsA] at h
    split at h
    · cases h
    · obtain ⟨c1, h1, h2⟩ := Option.bind_eq_some_iff.1 h
      have ih := puts_do (es := es) t v h2
      obtain ⟨h3, h4, rfl⟩ := putC_some h1
      have e1 : doC { c with term := t, vote := v } (enR e.en) false = some { c with term := t, vote := v, es := c.es.take (e.en.ix - c.ix - 1) ++ [e.en] } := by
        unfold doC
        rw [if_neg (by simp [enR]), if_pos (show (enR e.en).k = 2 from rfl)]
        unfold putC
        rw [if_neg (by simp only [enR]; omega)]
        rfl
      show (doC { c with term := t, vote := v } (enR e.en) false).bind (fun c' => doAll c' (es.map fun e => enR e.en) false) = _
      rw [e1]
      exact ih
theorem puts_ok : ∀ {es : List EA} {c c' : Cn}, putsA c es = some c' → ∀ e ∈ es, 0 ≤ e.tm ∧ 0 ≤ e.kd ∧ 0 ≤ e.ix
  | [], _, _, _, e, h => by cases h
  | a :: es, c, c', h, e, he => by
    rw [putsA] at h
    split at h
    · cases h
    · obtain ⟨c1, h1, h2⟩ := Option.bind_eq_some_iff.1 h
      rcases List.mem_cons.1 he with rfl | he
      · exact ⟨by omega, by omega, by omega⟩
      · exact puts_ok h2 e he
def saveR (c : Cn) (t v : Nat) (es : List En) : List Rc := (if t ≠ c.term ∨ v ≠ c.vote then [stR t v] else []) ++ es.map enR
theorem saveB_is (c : Cn) (t v : Nat) (es : List En) : saveB c t v es = recsB (saveR c t v es) := by
  unfold saveB saveR
  rw [recsB_app]
  split <;> simp [recsB]
theorem save_do {es : List EA} {c c' : Cn} {t v : Nat} (h : putsA c es = some c') : doAll c (saveR c t v (es.map EA.en)) false = some { c' with term := t, vote := v } := by
  have h2 := puts_do t v h
  rw [show (es.map fun e => enR e.en) = (es.map EA.en).map enR by rw [List.map_map]; rfl] at h2
  unfold saveR
  by_cases hc : t ≠ c.term ∨ v ≠ c.vote
  · rw [if_pos hc]
    show (doC c (stR t v) false).bind _ = _
    rw [show doC c (stR t v) false = some { c with term := t, vote := v } from rfl]
    exact h2
  · rw [if_neg hc, List.nil_append]
    have e1 : t = c.term := Classical.byContradiction fun h => hc (.inl h)
    have e2 : v = c.vote := Classical.byContradiction fun h => hc (.inr h)
    subst e1 e2
    exact h2
theorem stR_ok {t v : Nat} (ht : t < 9223372036854775808) (hv : v < 9223372036854775808) : RcOk (stR t v) := ⟨ht, hv, by simp [stR], .inr ⟨.inl rfl, rfl, rfl⟩⟩
theorem baR_ok {t v : Nat} (ht : t < 9223372036854775808) (hv : v < 9223372036854775808) : RcOk (baR t v) := ⟨ht, hv, by simp [baR], .inr ⟨.inr rfl, rfl, rfl⟩⟩
def EAok (e : EA) : Prop := e.ix ≤ 9223372036854775807 ∧ e.tm ≤ 9223372036854775807 ∧ e.kd ≤ 9223372036854775807
theorem en_ok {e : EA} (h : EAok e) (hd : e.d.length ≤ 65536) : RcOk (enR e.en) := by
  obtain ⟨h1, h2, h3⟩ := h
  refine ⟨?_, ?_, ?_, .inl ⟨rfl, hd⟩⟩ <;> simp only [enR, EA.en] <;> omega
theorem saveR_ok {c : Cn} {t v : Nat} {es : List EA} (ht : t < 9223372036854775808) (hv : v < 9223372036854775808) (he : ∀ e ∈ es, EAok e) (hd : ¬ es.any (fun e => decide (65536 < e.d.length)) = true) : ∀ r ∈ saveR c t v (es.map EA.en), RcOk r := by
  intro r hr
  rcases List.mem_append.1 hr with hr | hr
  · split at hr
    · rw [List.mem_singleton.1 hr]; exact stR_ok ht hv
    · cases hr
  · obtain ⟨x, hx, rfl⟩ := List.mem_map.1 hr
    obtain ⟨e, he2, rfl⟩ := List.mem_map.1 hx
    refine en_ok (he e he2) (Nat.le_of_not_lt fun h => hd (List.any_eq_true.2 ⟨e, he2, decide_eq_true h⟩))
theorem saveR_k {c : Cn} {t v : Nat} {es : List En} : ∀ r ∈ saveR c t v es, r.k ≠ 3 := by
  intro r hr
  rcases List.mem_append.1 hr with hr | hr
  · split at hr
    · rw [List.mem_singleton.1 hr]; simp [stR]
    · cases hr
  · obtain ⟨x, hx, rfl⟩ := List.mem_map.1 hr
    simp [enR]
/-- The last file, or a new one: the files ahead of it, its records so far. -/
structure Tail (l : Lg) (lo : Nat) (segs s0 : List (List Rc)) (o : List (List Rc)) : Prop where
  app : segs = s0 ++ o
  one : o.length ≤ 1
  fi : (if 1024 ≤ l.long then l.file + 1 else l.file) = lo + s0.length
  long : (if 1024 ≤ l.long then 0 else l.long) = (recsB o.flatten).length
theorem tail_of {D : Dsk} {l : Lg} {lo : Nat} {segs : List (List Rc)} (h : LogOn D l lo segs) : ∃ s0 o, Tail l lo segs s0 o := by
  have hf := h.file
  by_cases hl : 1024 ≤ l.long
  · refine ⟨segs, [], by simp, by simp, ?_, ?_⟩
    · rw [if_pos hl]; exact hf
    · rw [if_pos hl]; rfl
  · have hlong := h.long
    rcases List.eq_nil_or_concat segs with rfl | ⟨s0, x, rfl⟩
    · cases hlong
    rw [List.concat_eq_append] at *
    refine ⟨s0, [x], rfl, by simp, ?_, ?_⟩
    · rw [if_neg hl]; rw [List.length_append, List.length_singleton] at hf; omega
    · rw [if_neg hl]
      rw [List.getLast?_append, List.getLast?_singleton] at hlong
      simp only [Option.some_or, Option.map_some, Option.some.injEq] at hlong
      rw [← hlong]; simp
theorem Tail.len {D : Dsk} {l : Lg} {lo : Nat} {segs s0 o : List (List Rc)} (h : LogOn D l lo segs) (ht : Tail l lo segs s0 o) : lo + s0.length ≤ l.file + 1 := by
  rw [← ht.fi]; split <;> omega
theorem on_more {D D' : Dsk} {l : Lg} {lo : Nat} {segs s0 o : List (List Rc)} (h : LogOn D l lo segs) (ht : Tail l lo segs s0 o) {new : List Rc} (hn : ∀ r ∈ new, RcOk r) (hk : ∀ r ∈ new, r.k ≠ 3) {c' : Cn} (hc : doAll l.c new false = some c') (hfew : l.file < 100000)
    (h1 : D'.off = false) (h2 : D'.ar = none) (h3 : D'.fs = setF D.fs ⟨nameF (lo + s0.length), recsB (o.flatten ++ new), (recsB (o.flatten ++ new)).length⟩) : LogOn D' ⟨c', lo + s0.length, (recsB (o.flatten ++ new)).length, 0⟩ lo (s0 ++ [o.flatten ++ new]) := by
  have hl := Tail.len h ht
  obtain ⟨app, one, fi, long⟩ := ht
  have hp : D.fs.Perm (segFs lo (s0 ++ o)) := app ▸ h.perm
  refine ⟨h1, h2, by rw [h3]; exact srt_set h.srt _, ?_, ?_, ?_, ?_, h.lo0, ?_, by simp only; omega, ?_, rfl⟩
  · rw [h3, segFs_app]
    exact set_last h.srt hp one rfl
  · intro rs hrs r hr
    rcases List.mem_append.1 hrs with hrs | hrs
    · exact h.ok rs (app ▸ List.mem_append_left _ hrs) r hr
    · rw [List.mem_singleton.1 hrs] at hr
      rcases List.mem_append.1 hr with hr | hr
      · obtain ⟨x, hx, hr⟩ := List.mem_flatten.1 hr
        exact h.ok x (app ▸ List.mem_append_right _ hx) r hr
      · exact hn r hr
  · obtain ⟨r, rs, ss, e, hr3, hss⟩ := h.base
    match s0, app with
    | [], app =>
      match o, one with
      | [], _ => rw [app] at e; cases e
      | [x], _ =>
        rw [app] at e
        cases e
        exact ⟨r, rs ++ new, [], by simp, hr3, fun s hs => by cases hs⟩
    | x :: s0, app =>
      rw [app] at e
      cases e
      refine ⟨r, rs, s0 ++ [o.flatten ++ new], rfl, hr3, fun s hs q hq => ?_⟩
      rcases List.mem_append.1 hs with hs | hs
      · exact hss s (List.mem_append_left _ hs) q hq
      · rw [List.mem_singleton.1 hs] at hq
        rcases List.mem_append.1 hq with hq | hq
        · obtain ⟨y, hy, hq⟩ := List.mem_flatten.1 hq
          exact hss y (List.mem_append_right _ hy) q hq
        · exact hk q hq
  · have e : (s0 ++ [o.flatten ++ new]).flatten = segs.flatten ++ new := by rw [app]; simp
    rw [e, doAll_app' h.c (logOn_flat h), hc]
  · simp only [List.length_append, List.length_singleton]; omega
  · simp
theorem saveL_quiet {D : Dsk} {l : Lg} {lo : Nat} {segs : List (List Rc)} (h : LogOn D l lo segs) (hfew : l.file < 100000) {t v : Int} {es : List EA} (ht : t ≤ 9223372036854775807) (hv : v ≤ 9223372036854775807) (he : ∀ e ∈ es, EAok e) :
    (∃ e, saveL D l t v es = (D, l, e) ∧ (putsA l.c es = none ∨ (t < 0 ∨ v < 0) ∨ es.any (fun e => decide (65536 < e.d.length)) = true ∨ saveB l.c t.toNat v.toNat (es.map EA.en) = [])) ∨
      ∃ c' s0 o l', putsA l.c es = some c' ∧ 0 ≤ t ∧ 0 ≤ v ∧ Tail l lo segs s0 o ∧ l'.file = lo + s0.length ∧ l'.c = { c' with term := t.toNat, vote := v.toNat } ∧ (saveL D l t v es).2 = (l', 0) ∧ LogOn (saveL D l t v es).1 l' lo (s0 ++ [o.flatten ++ saveR l.c t.toNat v.toNat (es.map EA.en)]) := by
  obtain ⟨s0, o, hT⟩ := tail_of h
  unfold saveL
  rw [if_neg (by rw [h.bad]; simp)]
  cases hp : putsA l.c es with
  | none => exact .inl ⟨_, rfl, .inl rfl⟩
  | some c' =>
    simp only
    split
    · rename_i htv; exact .inl ⟨_, rfl, .inr (.inl htv)⟩
    rename_i htv
    split
    · rename_i hlong; exact .inl ⟨_, rfl, .inr (.inr (.inl hlong))⟩
    rename_i hlong
    split
    · rename_i hb; exact .inl ⟨_, rfl, .inr (.inr (.inr hb))⟩
    rename_i hb
    have hlen := Tail.len h hT
    have hpm : D.fs.Perm (segFs lo (s0 ++ o)) := hT.app ▸ h.perm
    have hold := old_last h.srt hpm hT.one
    rw [saveB_is, hT.fi, hT.long]
    have hm1 := may_log h.off (show lo + s0.length < 1000000000 by omega)
    have r1 := doD_quiet (D := D) h.ar (kind := 0) (nm := nameF (lo + s0.length)) (p := recsB (saveR l.c t.toNat v.toNat (es.map EA.en))) (n := 0) hm1 (fun h => absurd h.1 (by decide))
    have e1 : doF D.fs 0 (nameF (lo + s0.length)) (recsB (saveR l.c t.toNat v.toNat (es.map EA.en))) (0 : Int).toNat = setF D.fs ⟨nameF (lo + s0.length), recsB (o.flatten ++ saveR l.c t.toNat v.toNat (es.map EA.en)), (recsB o.flatten).length⟩ := by
      show setF D.fs ⟨nameF (lo + s0.length), (oldF D.fs (nameF (lo + s0.length))).b ++ recsB (saveR l.c t.toNat v.toNat (es.map EA.en)), (oldF D.fs (nameF (lo + s0.length))).sure⟩ = _
      rw [hold, recsB_app]
    rw [e1] at r1
    rw [r1]
    have hg := getF_set h.srt ⟨nameF (lo + s0.length), recsB (o.flatten ++ saveR l.c t.toNat v.toNat (es.map EA.en)), (recsB o.flatten).length⟩ (nameF (lo + s0.length))
    rw [if_pos rfl] at hg
    have r2 := doD_quiet (D := { D with fs := setF D.fs ⟨nameF (lo + s0.length), recsB (o.flatten ++ saveR l.c t.toNat v.toNat (es.map EA.en)), (recsB o.flatten).length⟩ }) h.ar (kind := 1) (nm := nameF (lo + s0.length)) (p := []) (n := 0) (may_log_at (D := { D with fs := setF D.fs ⟨nameF (lo + s0.length), recsB (o.flatten ++ saveR l.c t.toNat v.toNat (es.map EA.en)), (recsB o.flatten).length⟩ }) h.off (by omega) hg) (fun h => absurd h.1 (by decide))
    have e2 : doF (setF D.fs ⟨nameF (lo + s0.length), recsB (o.flatten ++ saveR l.c t.toNat v.toNat (es.map EA.en)), (recsB o.flatten).length⟩) 1 (nameF (lo + s0.length)) [] (0 : Int).toNat = setF D.fs ⟨nameF (lo + s0.length), recsB (o.flatten ++ saveR l.c t.toNat v.toNat (es.map EA.en)), (recsB (o.flatten ++ saveR l.c t.toNat v.toNat (es.map EA.en))).length⟩ := by
      show setF _ ⟨_, (oldF _ _).b, (oldF _ _).b.length⟩ = _
      unfold oldF
      rw [hg]
      exact set_twice h.srt rfl
    rw [e2] at r2
    simp only [r2, ne_eq, not_true_eq_false, if_false]
    refine .inr ⟨c', s0, o, _, rfl, by omega, by omega, hT, rfl, rfl, rfl, ?_⟩
    have hlo : (recsB o.flatten).length + (recsB (saveR l.c t.toNat v.toNat (es.map EA.en))).length = (recsB (o.flatten ++ saveR l.c t.toNat v.toNat (es.map EA.en))).length := by rw [recsB_app, List.length_append]
    rw [hlo]
    exact on_more h hT (saveR_ok (by omega) (by omega) he hlong) saveR_k (save_do hp) hfew h.off h.ar rfl
end Go.Proofs.YtajapgjemefoiaaGreatDoor
/- Layer 19 (wal): the files of a log, as they lie in memory; which of them may follow one another, told file by file. Plain mathematics. -/
set_option linter.unusedVariables false
namespace Go.Proofs.YtajapgjemefoiaaGreatDoor
open Go.RowKit Go.SW
/-- A file: its records, each with its data's slice, and their row. -/
structure PV where
  k : Nat
  whole : Nat
  more : Bool
  rs : List (Rc × Value)
  A : Option Addr
  cap : Nat
instance : Inhabited PV := ⟨⟨0, 0, false, [], none, 0⟩⟩
abbrev PV.v (q : PV) : Value := .slice q.A q.rs.length q.cap
def PV.recs (q : PV) : List Rc := q.rs.map (·.1)
def PV.pt (q : PV) : Pt := ⟨q.k, q.recs, q.whole, q.more⟩
def pvC (q : PV) : List Value := [.int .i64 ((q.k : Nat) : Int), .int .i64 ((q.whole : Nat) : Int), .bool q.more, q.v]
theorem pvC_len (q : PV) : (pvC q).length = 4 := rfl
def rcC (q : Rc × Value) : List Value := [.int .i64 ((q.1.k : Nat) : Int), .int .i64 ((q.1.a : Nat) : Int), .int .i64 ((q.1.b : Nat) : Int), .int .i64 ((q.1.c : Nat) : Int), q.2]
theorem rcC_len (q : Rc × Value) : (rcC q).length = 5 := rfl
structure PvOk (c : Zone) (q : PV) : Prop where
  row : Row c q.v 5 q.rs.length (rowC rcC q.rs)
  ok : ∀ r ∈ q.rs, RB c r.2 r.1.d ∧ RcOk r.1
  k : q.k < 1000000000
  whole : q.whole ≤ 4294967296
theorem PvOk.mono {c c' : Zone} {q : PV} (h : PvOk c q) (hl : c.le c') : PvOk c' q := ⟨h.row.mono hl, fun r hr => ⟨(h.ok r hr).1.mono hl, (h.ok r hr).2⟩, h.k, h.whole⟩
theorem takeNum_lt (p : List UInt8) (h : (takeNum p).2.2 = 0) : (takeNum p).1 < 9223372036854775808 := by
  unfold takeNum at h ⊢
  split at h
  · simp at h
  rename_i h1
  split at h
  · simp at h
  rename_i h2
  split at h
  · simp at h
  rename_i h3
  split at h
  · simp at h
  rename_i h4
  split at h
  · simp at h
  rename_i h5
  rw [if_neg h1, if_neg h2, if_neg h3, if_neg h4, if_neg h5]
  simp only
  have hl : ((p.drop 1).take (gb p 0)).length = gb p 0 := by rw [List.length_take, List.length_drop]; omega
  by_cases h6 : gb p 0 ≤ 7
  · have h7 := beVal_lt ((p.drop 1).take (gb p 0))
    rw [hl] at h7
    have h8 : 256 ^ gb p 0 ≤ 256 ^ 7 := Nat.pow_le_pow_right (by omega) h6
    omega
  · have h7 : gb p 0 = 8 := by omega
    rw [h7] at hl h3 ⊢
    obtain ⟨c, d, l, rfl⟩ : ∃ c d l, p = c :: d :: l := by
      match p, h3 with
      | c :: d :: l, _ => exact ⟨c, d, l, rfl⟩
      | [c], h3 => simp at h3
      | [], h3 => simp at h3
    have h8 := beVal_cons_lt d (l.take 7)
    have h9 : d.toNat ≤ 127 := by
      have : gb (c :: d :: l) 1 = d.toNat := rfl
      omega
    have h10 : (l.take 7).length = 7 := by simp at h3; simp; omega
    rw [h10] at h8
    simp only [List.drop_succ_cons, List.drop_zero, List.take_succ_cons]
    omega
theorem takeBlob_le (p : List UInt8) : (takeBlob p).1.length ≤ 65536 := by
  unfold takeBlob
  split
  · simp
  split
  · simp
  split
  · simp
  · simp only [List.length_take, List.length_drop]; omega
def numK (p : List UInt8) : Nat := if (takeNum p).2.2 = 0 then (takeNum p).1 else 0
def numT (p : List UInt8) : List UInt8 := if (takeNum p).2.2 = 0 then p.drop (takeNum p).2.1 else p
theorem readR_bad {p : List UInt8} (h : ¬ ((takeNum p).2.2 = 0 ∧ (takeNum (numT p)).2.2 = 0 ∧ (takeNum (numT (numT p))).2.2 = 0)) : readR p = none := by
  unfold readR
  by_cases h1 : (takeNum p).2.2 = 0
  · have e1 : numT p = p.drop (takeNum p).2.1 := if_pos h1
    rw [e1] at h
    rw [if_neg (fun h2 => h2 h1)]
    by_cases h2 : (takeNum (p.drop (takeNum p).2.1)).2.2 = 0
    · have e2 : numT (p.drop (takeNum p).2.1) = (p.drop (takeNum p).2.1).drop (takeNum (p.drop (takeNum p).2.1)).2.1 := if_pos h2
      rw [e2] at h
      rw [if_neg (fun h3 => h3 h2), if_pos (fun h3 => h ⟨h1, h2, h3⟩)]
    · rw [if_pos h2]
  · rw [if_pos h1]
section
variable {p p1 p2 p3 p4 : List UInt8} (h : (takeNum p).2.2 = 0 ∧ (takeNum (numT p)).2.2 = 0 ∧ (takeNum (numT (numT p))).2.2 = 0)
include h
theorem readR_one : readR p = if numK p = 2 then
      (if (takeNum (numT (numT (numT p)))).2.2 ≠ 0 then none else
       if (takeBlob (numT (numT (numT (numT p))))).2.2 ≠ 0 then none else
       if (numT (numT (numT (numT p)))).drop (takeBlob (numT (numT (numT (numT p))))).2.1 = [] then some ⟨2, numK (numT p), numK (numT (numT p)), numK (numT (numT (numT p))), (takeBlob (numT (numT (numT (numT p))))).1⟩ else none)
    else if (numK p = 1 ∨ numK p = 3) ∧ numT (numT (numT p)) = [] then some ⟨numK p, numK (numT p), numK (numT (numT p)), 0, []⟩ else none := by
  obtain ⟨h1, h2, h3⟩ := h
  have e1 : numT p = p.drop (takeNum p).2.1 := if_pos h1
  have k1 : numK p = (takeNum p).1 := if_pos h1
  have e2 : numT (numT p) = (numT p).drop (takeNum (numT p)).2.1 := if_pos h2
  have k2 : numK (numT p) = (takeNum (numT p)).1 := if_pos h2
  have e3 : numT (numT (numT p)) = (numT (numT p)).drop (takeNum (numT (numT p))).2.1 := if_pos h3
  have k3 : numK (numT (numT p)) = (takeNum (numT (numT p))).1 := if_pos h3
  unfold readR
  simp only
  rw [if_neg (fun x => x h1), ← e1, if_neg (fun x => x h2), ← e2, if_neg (fun x => x h3), ← e3, ← k1, ← k2, ← k3]
  generalize numT (numT (numT p)) = p3
  generalize numK (numT (numT p)) = x2
  generalize numK (numT p) = x1
  generalize numK p = k
  by_cases hk : k = 2
  · rw [if_pos hk, if_pos hk]
    by_cases h4 : (takeNum p3).2.2 = 0
    · have e4 : numT p3 = p3.drop (takeNum p3).2.1 := if_pos h4
      have k4 : numK p3 = (takeNum p3).1 := if_pos h4
      rw [e4, k4]
    · have h5 : (takeNum p3).2.2 ≠ 0 := h4
      rw [if_pos h5, if_pos h5]
  · rw [if_neg hk, if_neg hk]
end
theorem readR_ok {p : List UInt8} {r : Rc} (h : readR p = some r) : RcOk r := by
  have hall : (takeNum p).2.2 = 0 ∧ (takeNum (numT p)).2.2 = 0 ∧ (takeNum (numT (numT p))).2.2 = 0 := Classical.byContradiction fun hx => by rw [readR_bad hx] at h; cases h
  rw [readR_one hall] at h
  have n2 : numK (numT p) < 9223372036854775808 := by unfold numK; rw [if_pos hall.2.1]; exact takeNum_lt _ hall.2.1
  have n3 : numK (numT (numT p)) < 9223372036854775808 := by unfold numK; rw [if_pos hall.2.2]; exact takeNum_lt _ hall.2.2
  generalize numK (numT p) = a at *
  generalize numK (numT (numT p)) = b at *
  generalize numT (numT (numT p)) = p3 at *
  generalize numK p = k at *
  by_cases hk : k = 2
  · rw [if_pos hk] at h
    by_cases h4 : (takeNum p3).2.2 = 0
    · rw [if_neg (show ¬ (takeNum p3).2.2 ≠ 0 from fun x => x h4)] at h
      have n4 : numK p3 < 9223372036854775808 := by unfold numK; rw [if_pos h4]; exact takeNum_lt _ h4
      generalize numK p3 = c at *
      generalize numT p3 = p4 at *
      by_cases h5 : (takeBlob p4).2.2 = 0
      · rw [if_neg (show ¬ (takeBlob p4).2.2 ≠ 0 from fun x => x h5)] at h
        by_cases h6 : p4.drop (takeBlob p4).2.1 = []
        · rw [if_pos h6] at h
          have n5 := takeBlob_le p4
          obtain rfl := Option.some.inj h
          exact ⟨n2, n3, n4, .inl ⟨rfl, n5⟩⟩
        · rw [if_neg h6] at h; cases h
      · rw [if_pos (show (takeBlob p4).2.2 ≠ 0 from h5)] at h; cases h
    · rw [if_pos (show (takeNum p3).2.2 ≠ 0 from h4)] at h; cases h
  · rw [if_neg hk] at h
    by_cases h7 : (k = 1 ∨ k = 3) ∧ p3 = []
    · rw [if_pos h7] at h
      obtain rfl := Option.some.inj h
      exact ⟨n2, n3, (by simp), .inr ⟨h7.1, rfl, rfl⟩⟩
    · rw [if_neg h7] at h; cases h
theorem takeBlob_used2 (b : List UInt8) : (takeBlob b).2.1 ≤ b.length := by
  have h := takeNum_used b
  unfold takeBlob
  split
  · simp
  split
  · simp
  split
  · simp
  · simp only; omega
def kPrev (ps : List PV) (i : Nat) : Nat := ((ps[i - 1]?).map PV.k).getD 0
def amiss (ps : List PV) (i : Nat) (q : PV) : Prop := 100000000 < q.k ∨ (0 < i ∧ kPrev ps i + 1 ≠ q.k) ∨ (q.more = true ∧ i + 1 < ps.length)
theorem okP_cons {p : Pt} {r : List Pt} : okP (p :: r) = true ↔ p.k ≤ 100000000 ∧ (∀ q, r[0]? = some q → p.more = false ∧ p.k + 1 = q.k) ∧ okP r = true := by
  cases r with
  | nil => simp [okP]
  | cons q r =>
    show (decide (p.k ≤ 100000000) && !p.more && decide (p.k + 1 = q.k) && okP (q :: r)) = true ↔ _
    simp only [Bool.and_eq_true, decide_eq_true_eq, Bool.not_eq_true', List.getElem?_cons_zero, Option.some.injEq]
    constructor
    · rintro ⟨⟨⟨h1, h2⟩, h3⟩, h4⟩
      exact ⟨h1, fun x hx => hx ▸ ⟨h2, h3⟩, h4⟩
    · rintro ⟨h1, h2, h3⟩
      exact ⟨⟨⟨h1, (h2 q rfl).1⟩, (h2 q rfl).2⟩, h3⟩
theorem okP_at : ∀ (ps : List PV), okP (ps.map PV.pt) = true ↔ ∀ (i : Nat) (q : PV), ps[i]? = some q → q.k ≤ 100000000 ∧ ∀ q2, ps[i + 1]? = some q2 → q.more = false ∧ q.k + 1 = q2.k
  | [] => by simp [okP]
  | p :: r => by
    rw [List.map_cons, okP_cons, okP_at r]
    constructor
    · rintro ⟨h1, h2, h3⟩ i q hq
      cases i with
      | zero =>
        cases hq
        refine ⟨h1, fun q2 hq2 => ?_⟩
        rw [Nat.zero_add, List.getElem?_cons_succ] at hq2
        have := h2 q2.pt (by rw [List.getElem?_map, hq2]; rfl)
        exact this
      | succ i => exact h3 i q hq
    · intro h
      refine ⟨(h 0 p rfl).1, fun q hq => ?_, fun i q hq => h (i + 1) q hq⟩
      rw [List.getElem?_map] at hq
      obtain ⟨q2, h2, rfl⟩ := Option.map_eq_some_iff.1 hq
      exact (h 0 p rfl).2 q2 h2
theorem okP_all {ps : List PV} (h : ∀ (i : Nat) (q : PV), ps[i]? = some q → ¬ amiss ps i q) : okP (ps.map PV.pt) = true := by
  rw [okP_at]
  intro i q hq
  have h1 := h i q hq
  unfold amiss at h1
  refine ⟨by omega, fun q2 hq2 => ?_⟩
  have hl := (List.getElem?_eq_some_iff.1 hq2).1
  have h2 := h (i + 1) q2 hq2
  unfold amiss kPrev at h2
  rw [Nat.add_sub_cancel, hq] at h2
  simp only [Option.map_some, Option.getD_some] at h2
  refine ⟨?_, by omega⟩
  cases hm : q.more with
  | false => rfl
  | true => exact absurd (.inr (.inr ⟨hm, hl⟩)) h1
theorem okP_not {ps : List PV} {i : Nat} {q : PV} (hq : ps[i]? = some q) (h : amiss ps i q) : ¬ okP (ps.map PV.pt) = true := by
  rw [okP_at]
  intro h2
  have hi := (List.getElem?_eq_some_iff.1 hq).1
  rcases h with h | ⟨h0, h⟩ | ⟨hm, hl⟩
  · have := (h2 i q hq).1; omega
  · have h3 : ps[i - 1]? = some ps[i - 1] := List.getElem?_eq_getElem (by omega)
    have := ((h2 (i - 1) _ h3).2 q (by rw [show i - 1 + 1 = i by omega]; exact hq)).2
    unfold kPrev at h
    rw [h3] at h
    simp only [Option.map_some, Option.getD_some] at h
    omega
  · have h3 : ps[i + 1]? = some ps[i + 1] := List.getElem?_eq_getElem hl
    have := ((h2 i q hq).2 _ h3).1
    rw [hm] at this; cases this
theorem fromP_snoc : ∀ (l : List Pt) (p : Pt), fromP (l ++ [p]) = if isBase p = true then some l.length else fromP l
  | [], p => by simp [fromP]
  | q :: l, p => by
    rw [List.cons_append, fromP, fromP_snoc l p]
    by_cases h : isBase p = true
    · rw [if_pos h, if_pos h]; rfl
    · rw [if_neg h, if_neg h]
      rfl
def fromV (o : Option Nat) : Int := match o with | some i => (i : Int) | none => -1
theorem fromP_at : ∀ {l : List Pt} {i : Nat}, fromP l = some i → ∃ p, l[i]? = some p ∧ isBase p = true
  | [], i, h => by cases h
  | q :: l, i, h => by
    rw [fromP] at h
    cases hl : fromP l with
    | none =>
      rw [hl] at h
      simp only at h
      split at h
      · rename_i hb; cases h; exact ⟨q, rfl, hb⟩
      · cases h
    | some j =>
      rw [hl] at h
      cases h
      obtain ⟨p, h1, h2⟩ := fromP_at hl
      exact ⟨p, h1, h2⟩
theorem isBase_pt (q : PV) : isBase q.pt = decide ((q.rs[0]?).map (·.1.k) = some 3) := by
  obtain ⟨k, w, m, rs, A, cap⟩ := q
  cases rs with
  | nil => rfl
  | cons r rs => simp [PV.pt, PV.recs, isBase]
theorem doAll_snoc (L : List Rc) (r : Rc) (c : Cn) (f : Bool) : doAll c (L ++ [r]) f = (doAll c L f).bind fun c' => doC c' r (f && L.isEmpty) := by
  cases L with
  | nil =>
    show (doC c r f).bind (fun c' => some c') = (some c).bind _
    simp
  | cons a L =>
    rw [doAll_app _ _ _ _ (by simp)]
    congr 1
    funext c'
    show (doC c' r false).bind (fun c' => some c') = _
    simp
theorem doAll_none {L M : List Rc} {c : Cn} {f : Bool} (h : doAll c L f = none) (hne : L ≠ []) : doAll c (L ++ M) f = none := by rw [doAll_app _ _ _ _ hne, h]; rfl
theorem doC_len {c c' : Cn} {r : Rc} {f : Bool} (h : doC c r f = some c') : c'.es.length ≤ c.es.length + 1 := by
  unfold doC at h
  split at h
  · cases h; simp
  split at h
  · obtain ⟨_, _, rfl⟩ := putC_some h
    simp only [List.length_append, List.length_take, List.length_singleton]; omega
  split at h
  · cases h; simp
  · cases h
theorem doAll_len : ∀ {L : List Rc} {c c' : Cn} {f : Bool}, doAll c L f = some c' → c'.es.length ≤ c.es.length + L.length
  | [], c, c', f, h => by cases h; simp
  | r :: L, c, c', f, h => by
    obtain ⟨c1, h1, h2⟩ := Option.bind_eq_some_iff.1 (show (doC c r f).bind _ = some c' from h)
    have := doAll_len h2
    have := doC_len h1
    rw [List.length_cons]; omega
def recsN (ds : List PV) (j : Nat) : List Rc := ((ds.take j).map PV.recs).flatten
theorem recsN_next {ds : List PV} {j : Nat} {q : PV} (h : ds[j]? = some q) : recsN ds (j + 1) = recsN ds j ++ q.recs := by
  have hj := (List.getElem?_eq_some_iff.1 h).1
  have he := (List.getElem?_eq_some_iff.1 h).2
  unfold recsN
  rw [List.take_succ_eq_append_getElem hj, he]
  simp
theorem recsN_all (ds : List PV) {j : Nat} (h : ds.length ≤ j) : recsN ds j = (ds.map PV.recs).flatten := by unfold recsN; rw [List.take_of_length_le h]
theorem recsN_split {ds : List PV} {j : Nat} {q : PV} (h : ds[j]? = some q) (k : Nat) : ∃ M, (ds.map PV.recs).flatten = recsN ds j ++ q.recs.take k ++ M := by
  have hj := (List.getElem?_eq_some_iff.1 h).1
  have he := (List.getElem?_eq_some_iff.1 h).2
  refine ⟨q.recs.drop k ++ ((ds.drop (j + 1)).map PV.recs).flatten, ?_⟩
  have : ds = ds.take j ++ q :: ds.drop (j + 1) := by rw [← he, ← List.drop_eq_getElem_cons hj, List.take_append_drop]
  conv => lhs; rw [this]
  have h2 : q.recs = q.recs.take k ++ q.recs.drop k := (List.take_append_drop k q.recs).symm
  unfold recsN
  rw [List.map_append, List.map_cons, List.flatten_append, List.flatten_cons]
  conv => lhs; rw [h2]
  simp only [List.append_assoc]
theorem recs_next {q : PV} {k : Nat} {r : Rc × Value} (h : q.rs[k]? = some r) : q.recs.take (k + 1) = q.recs.take k ++ [r.1] := by
  have hk := (List.getElem?_eq_some_iff.1 h).1
  have he := (List.getElem?_eq_some_iff.1 h).2
  unfold PV.recs
  rw [List.take_succ_eq_append_getElem (by rw [List.length_map]; exact hk), List.getElem_map, he]
theorem readL_pv {ps : List PV} (h : okP (ps.map PV.pt) = true) {f : Nat} (hf : fromP (ps.map PV.pt) = some f) : readL (ps.map PV.pt) = (doAll Cn.zero ((ps.drop f).map PV.recs).flatten true).map fun c => (f, c) := by
  unfold readL
  rw [if_pos h, hf]
  show (doAll Cn.zero ((((ps.map PV.pt).drop f).map (·.rs)).flatten) true).map _ = _
  rw [← List.map_drop, List.map_map]; rfl
theorem recsN_empty {ds : List PV} {q0 : PV} (h0 : ds[0]? = some q0) (hb : isBase q0.pt = true) {j k : Nat} {q : PV} (hq : ds[j]? = some q) (hk : k ≤ q.rs.length) : (recsN ds j ++ q.recs.take k).isEmpty = decide (j + k = 0) := by
  rw [Bool.eq_iff_iff, List.isEmpty_iff, decide_eq_true_eq]
  constructor
  · intro h
    have h1 := congrArg List.length h
    rw [List.length_append, List.length_nil] at h1
    have hk2 : (q.recs.take k).length = k := by unfold PV.recs; rw [List.length_take, List.length_map]; omega
    have hj : j = 0 := by
      rcases Nat.eq_zero_or_pos j with h2 | h2
      · exact h2
      · exfalso
        have h3 : ∃ x L, recsN ds j = x :: L := by
          match ds, h0, j, h2 with
          | p :: ds, h0, j + 1, _ =>
            cases h0
            rw [isBase_pt, decide_eq_true_eq] at hb
            obtain ⟨r, hr, _⟩ := Option.map_eq_some_iff.1 hb
            cases hrs : q0.rs with
            | nil => rw [hrs] at hr; cases hr
            | cons a rs => exact ⟨a.1, _, by unfold recsN PV.recs; rw [List.take_succ_cons, List.map_cons, List.flatten_cons, hrs]; rfl⟩
        obtain ⟨x, L, e⟩ := h3
        rw [e, List.length_cons] at h1
        omega
    omega
  · intro h
    have hj : j = 0 := by omega
    have hk0 : k = 0 := by omega
    subst hj hk0
    simp [recsN]
end Go.Proofs.YtajapgjemefoiaaGreatDoor
/- errors.Join at any errors; layer 19 (wal): read: what they answer. -/
set_option maxRecDepth 100000
set_option maxHeartbeats 2000000
set_option linter.unusedVariables false
set_option linter.unusedSimpArgs false
namespace Go.Proofs.YtajapgjemefoiaaGreatDoor
open Go.RowKit Go.SW
abbrev JQ := Bool × TypeId × Value
def jV (q : JQ) : Value := ifW q.1 q.2.1 q.2.2
def jE (e : Nat) : JQ := (e == 0, 38, .int .i64 ((e : Nat) : Int))
theorem jE_v (e : Nat) : jV (jE e) = errV e := by
  unfold jV jE ifW errV errW
  by_cases h : e = 0
  · subst h; rfl
  · rw [if_neg h, show (e == 0) = false from by simpa using h]; rfl
theorem ifW_cells (z : Bool) (T : TypeId) (v : Value) : (ifW z T v).cells = #[ifW z T v] := by cases z <;> rfl
def cnj (js : List JQ) : Nat := (js.filter fun q => !q.1).length
theorem cnj_le (js : List JQ) : cnj js ≤ js.length := List.length_filter_le _ _
theorem cnj_take_le (js : List JQ) (j : Nat) : cnj (js.take j) ≤ j := Nat.le_trans (cnj_le _) (List.length_take_le _ _)
theorem cnj_step {js : List JQ} {j : Nat} {q : JQ} (h : js[j]? = some q) : cnj (js.take (j + 1)) = cnj (js.take j) + (if q.1 = true then 0 else 1) := by
  have hj := (List.getElem?_eq_some_iff.1 h).1
  have he := (List.getElem?_eq_some_iff.1 h).2
  unfold cnj
  rw [List.take_succ_eq_append_getElem hj, List.filter_append, List.length_append, he]
  cases hq : q.1 <;> simp [hq]
theorem cnj_zero {js : List JQ} : cnj js = 0 ↔ ∀ q ∈ js, q.1 = true := by
  unfold cnj
  rw [List.length_eq_zero_iff, List.filter_eq_nil_iff]
  simp
theorem js_at {js : List JQ} {j : Nat} {q : JQ} (h : js[j]? = some q) : (js.map jV)[j * 1 + 0]? = some (ifW q.1 q.2.1 q.2.2) := by
  rw [Nat.mul_one, Nat.add_zero, List.getElem?_map, h]; rfl
theorem if_iface {z : Bool} {T : TypeId} {v : Value} (h : z = false) : ifW z T v = .iface T v := by rw [h]; rfl
theorem j3 {z : Bool} {a b c : Nat} (h : z = true ↔ ∀ q ∈ [jE a, jE b, jE c], q.1 = true) : z = true ↔ a = 0 ∧ b = 0 ∧ c = 0 := by
  rw [h]; simp [jE]
theorem j2 {z y : Bool} {T : TypeId} {v : Value} {a : Nat} (h : z = true ↔ ∀ q ∈ [((y, T, v) : JQ), jE a], q.1 = true) : z = true ↔ y = true ∧ a = 0 := by
  rw [h]; simp [jE]
theorem rn_set0 (p : List UInt8) (x1 x2 x3 x4 : Value) : (if (takeNum p).2.2 = 0 then [Value.int .i64 0, x1, x2, x3, x4].set 0 (Ni (takeNum p).1) else [Value.int .i64 0, x1, x2, x3, x4]) = [Ni (numK p), x1, x2, x3, x4] := by unfold numK; split <;> rfl
theorem rn_set1 (p : List UInt8) (x0 x2 x3 x4 : Value) : (if (takeNum p).2.2 = 0 then [x0, Value.int .i64 0, x2, x3, x4].set 1 (Ni (takeNum p).1) else [x0, Value.int .i64 0, x2, x3, x4]) = [x0, Ni (numK p), x2, x3, x4] := by unfold numK; split <;> rfl
theorem rn_set2 (p : List UInt8) (x0 x1 x3 x4 : Value) : (if (takeNum p).2.2 = 0 then [x0, x1, Value.int .i64 0, x3, x4].set 2 (Ni (takeNum p).1) else [x0, x1, Value.int .i64 0, x3, x4]) = [x0, x1, Ni (numK p), x3, x4] := by unfold numK; split <;> rfl
theorem rn_set3 (p : List UInt8) (x0 x1 x2 x4 : Value) : (if (takeNum p).2.2 = 0 then [x0, x1, x2, Value.int .i64 0, x4].set 3 (Ni (takeNum p).1) else [x0, x1, x2, Value.int .i64 0, x4]) = [x0, x1, x2, Ni (numK p), x4] := by unfold numK; split <;> rfl

theorem JoinG_ct (v0 : Value) (js : List JQ) (w : World) (hR : Row w.cell? v0 1 js.length (js.map jV)) (hl : js.length ≤ 65536) :
    Fun Tryz.prog 105 [v0] w fun v w' => ∃ b z, v = ifW z 213 (.pointer (some ⟨b, 0, none⟩)) ∧ (z = true ↔ ∀ q ∈ js, q.1 = true) ∧ Fresh w w' [] := by
 obtain ⟨A0, c0, rfl, hR1, hR2⟩ := hR.form
 have hcl := cnj_le js
 refine fun_of_sw Tryz.func105 rfl 47 rfl rfl ?_
 have hH := Hp.start w
 refine sw_sr ?_
 refine glo 1 [(0, .slice A0 js.length c0)] ?_
 refine gl_dn rfl ?_
 refine sw_sr ?_
 refine glo 1 [(0, .slice A0 js.length c0), (3, .int .i64 0)] ?_
 refine gl_dn rfl ?_
 refine sw_seq ?_
 refine sw_sr ?_
 refine glo 1 [(0, .slice A0 js.length c0), (3, .int .i64 0), (9, .slice A0 js.length c0)] ?_
 refine gl_q rfl rfl rfl (rd_len (e := 35) (by kernel_rfl) rfl) ?_
 refine glo 1 [(0, .slice A0 js.length c0), (3, .int .i64 0), (9, .slice A0 js.length c0), (10, Ni js.length), (11, .int .i64 0)] ?_
 refine gl_dn rfl ?_
 refine sw_block ?_
 refine sw_loop (γ := Nat) (fun j => [(0, .slice A0 js.length c0), (3, Ni (cnj (js.take j))), (9, .slice A0 js.length c0), (10, Ni js.length), (11, Ni j)]) (fun j w_ => (j ≤ js.length) ∧ Hp w w_ (w.cell?) [] []) (fun j => js.length - j) (0) (Sub.of_eq (by kernel_rfl)) ?_ ?_
 · exact ⟨by omega, hH⟩
 clear hH
 rintro j w1 ⟨hj, hH⟩
 have hcz := cnj_take_le js j
 refine swk [(0, .slice A0 js.length c0), (3, Ni (cnj (js.take j))), (9, .slice A0 js.length c0), (10, Ni js.length), (11, Ni j)] ?_
 refine sw_sr ?_
 refine glo 1 [(0, .slice A0 js.length c0), (3, Ni (cnj (js.take j))), (9, .slice A0 js.length c0), (10, Ni js.length), (11, Ni j), (12, .bool (decide (((j : Nat) : Int) < ((js.length : Nat) : Int))))] ?_
 refine gl_dn rfl ?_
 refine sw_seq ?_
 refine sw_cond rfl rfl (fun hc1 => ?_) (fun hc1 => ?_)
 ·
  try simp only [decide_eq_true_eq] at hc1
  refine sw_skip ?_
  refine sw_next ?_
  refine sw_seq ?_
  refine sw_block ?_
  obtain ⟨⟨qz, qT, qv⟩, hq⟩ : ∃ q, js[j]? = some q := ⟨_, List.getElem?_eq_getElem (by omega)⟩
  have hst := cnj_step hq
  simp only at hst
  refine sw_sr ?_
  obtain ⟨p2, hi4, hp3⟩ := hR.idx j (by omega) (by decide)
  refine gl_q rfl rfl rfl (rd_idx (e := 35) (m := 1) (by kernel_rfl) (by kernel_rfl) rfl rfl hi4) ?_
  refine gl_q rfl rfl rfl (rd_load (by kernel_rfl) rfl (hH.zin _ _ (hp3 0 _ (by decide) (js_at hq)))) ?_
  refine glo 1 [(0, .slice A0 js.length c0), (3, Ni (cnj (js.take j))), (5, ifW qz qT qv), (9, .slice A0 js.length c0), (10, Ni js.length), (11, Ni j)] ?_
  refine gl_dn rfl ?_
  refine sw_sr ?_
  refine glo 1 [(0, .slice A0 js.length c0), (3, Ni (cnj (js.take j))), (9, .slice A0 js.length c0), (10, Ni js.length), (11, Ni j), (15, ifW qz qT qv)] ?_
  refine gl_q rfl rfl rfl (rd_if_ne (by kernel_rfl) rfl) ?_
  refine gl_dn rfl ?_
  refine sw_cond rfl rfl (fun hc2 => ?_) (fun hc2 => ?_)
  ·
   try simp only [Bool.not_eq_true'] at hc2
   have hnz := hc2
   have hnz0 : ¬ qz = true := by simpa using hc2
   refine sw_region ?_
   refine glo 2 [(0, .slice A0 js.length c0), (9, .slice A0 js.length c0), (10, Ni js.length), (11, Ni j), (18, .int .i64 (IntKind.i64.wrap (((cnj (js.take j) : Nat) : Int) + 1)))] ?_
   refine gl_cv 18 (Ni (cnj (js.take (j + 1)))) (by rw [hst, if_neg hnz0]; exact cv_i64 (by omega)) rfl ?_
   refine glo 1 [(0, .slice A0 js.length c0), (3, Ni (cnj (js.take (j + 1)))), (9, .slice A0 js.length c0), (10, Ni js.length), (11, Ni j)] ?_
   refine gl_done rfl ?_
   refine bkN ?_
   refine sw_next ?_
   refine sw_region ?_
   refine glo 1 [(0, .slice A0 js.length c0), (3, Ni (cnj (js.take (j + 1)))), (9, .slice A0 js.length c0), (10, Ni js.length), (19, .int .i64 (IntKind.i64.wrap (((j : Nat) : Int) + 1)))] ?_
   refine gl_cv 19 (Ni (j + 1)) (cv_i64 (by omega)) rfl ?_
   refine glo 1 [(0, .slice A0 js.length c0), (3, Ni (cnj (js.take (j + 1)))), (9, .slice A0 js.length c0), (10, Ni js.length), (11, Ni (j + 1))] ?_
   refine gl_done rfl ?_
   refine rnd_end (g := (j)) (j + 1) (by kernel_rfl) ?_ ?_
   · exact ⟨by omega, hH⟩
   · show js.length - (j + 1) < js.length - j; omega
  try simp only [Bool.not_eq_false'] at hc2
  have hnz1 : qz = true := by simpa using hc2
  refine sw_cv 3 (Ni (cnj (js.take (j + 1)))) (by rw [hst, if_pos hnz1]; rfl) rfl ?_
  refine sw_skip ?_
  refine bkN ?_
  refine sw_next ?_
  refine sw_region ?_
  refine glo 1 [(0, .slice A0 js.length c0), (3, Ni (cnj (js.take (j + 1)))), (9, .slice A0 js.length c0), (10, Ni js.length), (19, .int .i64 (IntKind.i64.wrap (((j : Nat) : Int) + 1)))] ?_
  refine gl_cv 19 (Ni (j + 1)) (cv_i64 (by omega)) rfl ?_
  refine glo 1 [(0, .slice A0 js.length c0), (3, Ni (cnj (js.take (j + 1)))), (9, .slice A0 js.length c0), (10, Ni js.length), (11, Ni (j + 1))] ?_
  refine gl_done rfl ?_
  refine rnd_end (g := (j)) (j + 1) (by kernel_rfl) ?_ ?_
  · exact ⟨by omega, hH⟩
  · show js.length - (j + 1) < js.length - j; omega
 try simp only [decide_eq_false_iff_not, Int.not_lt, Int.not_le] at hc1
 have hje : j = js.length := by omega
 rw [show js.take j = js from by rw [hje, List.take_length]]
 refine sw_exit ?_
 refine thX ?_
 refine thX ?_
 refine bkH ?_
 refine sw_next ?_
 refine sw_seq ?_
 refine sw_sr ?_
 refine glo 2 [(0, .slice A0 js.length c0), (3, Ni (cnj js)), (21, .bool (((cnj js : Nat) : Int) == (0 : Int)))] ?_
 refine gl_dn rfl ?_
 refine sw_cond rfl rfl (fun hc3 => ?_) (fun hc3 => ?_)
 ·
  try simp only [beq_iff_eq] at hc3
  refine sw_sr ?_
  refine glo 1 [(2, .nilIface)] ?_
  refine gl_dn rfl ?_
  refine sw_ret ?_
  refine thR ?_
  refine ret1 rfl rfl  ?_
  exact ⟨0, true, rfl, ⟨fun _ => cnj_zero.1 (by omega), fun _ => rfl⟩, (hH.sublist sln).fresh⟩
 try simp only [beq_eq_false_iff_ne, ne_eq] at hc3
 refine sw_skip ?_
 refine sw_next ?_
 refine sw_sr ?_
 refine glo 1 [(0, .slice A0 js.length c0), (22, Ni (cnj js))] ?_
 refine gl_st (st_makeC (e := 35) (zv := .nilIface) (bytes := 16) rfl rfl rfl (by kernel_rfl) (by kernel_rfl) rfl (cnj js) rfl rfl (by omega) (by unfold maxLen; omega) hH ?_)
 clear hH; intro b5 w6 hH
 refine glo 1 [(0, .slice A0 js.length c0), (24, .agg #[.slice (some ⟨b5, 0, none⟩) 0 (cnj js)])] ?_
 refine gl_st (st_boxH (cs := [.slice (some ⟨b5, 0, none⟩) 0 (cnj js)]) rfl rfl rfl rfl hH ?_)
 clear hH; intro b7 w8 hH
 refine glo 1 [(0, .slice A0 js.length c0), (6, Pp b7 0)] ?_
 refine gl_dn rfl ?_
 refine sw_seq ?_
 refine sw_sr ?_
 refine glo 1 [(6, Pp b7 0), (26, .slice A0 js.length c0)] ?_
 refine gl_q rfl rfl rfl (rd_len (e := 35) (by kernel_rfl) rfl) ?_
 refine glo 1 [(6, Pp b7 0), (26, .slice A0 js.length c0), (27, Ni js.length), (28, .int .i64 0)] ?_
 refine gl_dn rfl ?_
 refine sw_block ?_
 refine sw_loop (γ := Nat × Option Addr × Nat × Nat × List Value) (fun (j, A, c, q, xs) => [(6, Pp b7 0), (26, .slice A0 js.length c0), (27, Ni js.length), (28, Ni j)]) (fun (j, A, c, q, xs) w_ => (j ≤ js.length) ∧ (q ≤ j) ∧ Hp w w_ (w.cell?) [] [.row (.slice A q c) 35 1 q xs, .blk b7 215 [.slice A q c]]) (fun (j, A, c, q, xs) => js.length - j) (0, (some ⟨b5, 0, none⟩), cnj js, 0, []) (Sub.of_eq (by kernel_rfl)) ?_ ?_
 · exact ⟨by omega, by omega, hH⟩
 clear hH
 rintro ⟨j, A, c, q, xs⟩ w9 ⟨hj, hqj, hH⟩
 refine swk [(6, Pp b7 0), (26, .slice A0 js.length c0), (27, Ni js.length), (28, Ni j)] ?_
 refine sw_sr ?_
 refine glo 1 [(6, Pp b7 0), (26, .slice A0 js.length c0), (27, Ni js.length), (28, Ni j), (29, .bool (decide (((j : Nat) : Int) < ((js.length : Nat) : Int))))] ?_
 refine gl_dn rfl ?_
 refine sw_seq ?_
 refine sw_cond rfl rfl (fun hc4 => ?_) (fun hc4 => ?_)
 ·
  try simp only [decide_eq_true_eq] at hc4
  refine sw_skip ?_
  refine sw_next ?_
  refine sw_seq ?_
  refine sw_block ?_
  obtain ⟨⟨qz, qT, qv⟩, hq⟩ : ∃ q, js[j]? = some q := ⟨_, List.getElem?_eq_getElem (by omega)⟩
  have hst := cnj_step hq
  simp only at hst
  refine sw_sr ?_
  obtain ⟨p10, hi12, hp11⟩ := hR.idx j (by omega) (by decide)
  refine gl_q rfl rfl rfl (rd_idx (e := 35) (m := 1) (by kernel_rfl) (by kernel_rfl) rfl rfl hi12) ?_
  refine gl_q rfl rfl rfl (rd_load (by kernel_rfl) rfl (hH.zin _ _ (hp11 0 _ (by decide) (js_at hq)))) ?_
  refine glo 1 [(6, Pp b7 0), (8, ifW qz qT qv), (26, .slice A0 js.length c0), (27, Ni js.length), (28, Ni j)] ?_
  refine gl_dn rfl ?_
  refine sw_sr ?_
  refine glo 1 [(6, Pp b7 0), (8, ifW qz qT qv), (26, .slice A0 js.length c0), (27, Ni js.length), (28, Ni j), (32, ifW qz qT qv)] ?_
  refine gl_q rfl rfl rfl (rd_if_ne (by kernel_rfl) rfl) ?_
  refine gl_dn rfl ?_
  refine sw_cond rfl rfl (fun hc5 => ?_) (fun hc5 => ?_)
  ·
   try simp only [Bool.not_eq_true'] at hc5
   have hnz := hc5
   refine sw_region ?_
   refine glo 4 [(6, Pp b7 0), (8, ifW qz qT qv), (26, .slice A0 js.length c0), (27, Ni js.length), (28, Ni j), (34, Pp b7 0), (37, Pp b7 0)] ?_
   refine gl_q rfl rfl rfl (rd_loadK 1 (by kernel_rfl) hH rfl rfl rfl) ?_
   refine glo 1 [(6, Pp b7 0), (26, .slice A0 js.length c0), (27, Ni js.length), (28, Ni j), (34, Pp b7 0), (38, .slice A q c), (39, ifW qz qT qv)] ?_
   refine gl_cv 39 (.iface qT (qv)) (if_iface hnz) rfl ?_
   refine gl_st (st_buildS (e := 35) (zv := .nilIface) (m := 1) (bytes := 16) rfl rfl rfl (by kernel_rfl) (by kernel_rfl) rfl (cs := [.iface qT (qv)]) (by kernel_rfl) rfl hH ?_)
   clear hH; intro b13 w14 hH
   refine gl_st (st_appH (e := 35) (zv := .nilIface) (m := 1) (bytes := 16) 0 rfl rfl rfl (by kernel_rfl) (by kernel_rfl) rfl (by decide) hH rfl rfl rfl (hH.row_reads 2 rfl) (by simp [Value.oneCell']) (by unfold maxLen; omega) (by omega) ?_)
   clear hH; intro v15 w16 hH
   obtain ⟨A17, c18, rfl, hl19, hm20⟩ := hH.row_form 0 rfl
   refine glo 2 [(6, Pp b7 0), (26, .slice A0 js.length c0), (27, Ni js.length), (28, Ni j), (41, .slice A17 (q + 1) c18), (43, Pp b7 0)] ?_
   refine gl_st (st_storeK (v := .slice A17 (q + 1) c18) 1 rfl rfl rfl hH rfl rfl rfl (by kernel_rfl) rfl (by simp) ?_)
   clear hH; intro w21 hH
   refine gl_done rfl ?_
   refine bkN ?_
   refine sw_next ?_
   refine sw_region ?_
   refine glo 1 [(6, Pp b7 0), (26, .slice A0 js.length c0), (27, Ni js.length), (44, .int .i64 (IntKind.i64.wrap (((j : Nat) : Int) + 1)))] ?_
   refine gl_cv 44 (Ni (j + 1)) (cv_i64 (by omega)) rfl ?_
   refine glo 1 [(6, Pp b7 0), (26, .slice A0 js.length c0), (27, Ni js.length), (28, Ni (j + 1))] ?_
   refine gl_done rfl ?_
   refine rnd_end (g := (j, A, c, q, xs)) (j + 1, A17, c18, q + 1, xs ++ [.iface qT (qv)]) (by kernel_rfl) ?_ ?_
   · exact ⟨by omega, by omega, (hH.sublist (slk (slk sln)))⟩
   · show js.length - (j + 1) < js.length - j; omega
  try simp only [Bool.not_eq_false'] at hc5
  refine sw_skip ?_
  refine bkN ?_
  refine sw_next ?_
  refine sw_region ?_
  refine glo 1 [(6, Pp b7 0), (26, .slice A0 js.length c0), (27, Ni js.length), (44, .int .i64 (IntKind.i64.wrap (((j : Nat) : Int) + 1)))] ?_
  refine gl_cv 44 (Ni (j + 1)) (cv_i64 (by omega)) rfl ?_
  refine glo 1 [(6, Pp b7 0), (26, .slice A0 js.length c0), (27, Ni js.length), (28, Ni (j + 1))] ?_
  refine gl_done rfl ?_
  refine rnd_end (g := (j, A, c, q, xs)) (j + 1, A, c, q, xs) (by kernel_rfl) ?_ ?_
  · exact ⟨by omega, by omega, (hH.sublist (slk (slk sln)))⟩
  · show js.length - (j + 1) < js.length - j; omega
 try simp only [decide_eq_false_iff_not, Int.not_lt, Int.not_le] at hc4
 refine sw_exit ?_
 refine thX ?_
 refine thX ?_
 refine bkH ?_
 refine sw_next ?_
 refine sw_sr ?_
 refine glo 3 [(2, .iface 213 (Pp b7 0))] ?_
 refine gl_dn rfl ?_
 refine sw_ret ?_
 refine ret1 rfl rfl  ?_
 exact ⟨_, false, rfl, ⟨fun h => Bool.noConfusion h, fun h => absurd (cnj_zero.2 h) (by omega)⟩, (hH.sublist sln).fresh⟩
theorem Read_ct (vp : Value) (p : List UInt8) (w : World) (hp : RB w.cell? vp p) :
    Fun Tryz.prog 67 [vp] w fun v w' => (∃ fb, readR p = none ∧ v = .tuple #[.agg #[.int .i64 0, .int .i64 0, .int .i64 0, .int .i64 0, .slice none 0 0], .iface 178 (.pointer (some ⟨fb, 0, none⟩))] ∧ Fresh w w' [.blk fb 180 [.int .i64 90, .int .i64 0]]) ∨
      (∃ r vd, readR p = some r ∧ v = .tuple #[.agg #[.int .i64 ((r.k : Nat) : Int), .int .i64 ((r.a : Nat) : Int), .int .i64 ((r.b : Nat) : Int), .int .i64 ((r.c : Nat) : Int), vd], .nilIface] ∧ Fresh w w' [.row vd 5 1 r.d.length (bv r.d)]) := by
 obtain ⟨Ap, cp, rfl, hp1, hp2⟩ := hp.row.form
 refine fun_of_sw Tryz.func67 rfl 64 rfl rfl ?_
 have hH := Hp.start w
 refine sw_sr ?_
 refine gl_st (st_boxH (cs := [.slice Ap p.length cp]) rfl rfl rfl rfl hH ?_)
 clear hH; intro b1 w2 hH
 refine gl_st (st_allocH rfl rfl rfl (cs := [.int .i64 0, .int .i64 0, .int .i64 0, .int .i64 0, .slice none 0 0]) (by kernel_rfl) hH ?_)
 clear hH; intro b3 w4 hH
 refine glo 1 [(1, Pp b1 0), (2, Pp b3 0)] ?_
 refine gl_dn rfl ?_
 refine sw_sr ?_
 refine gl_st (st_allocH rfl rfl rfl (cs := [.int .i64 0, .int .i64 0, .int .i64 0, .int .i64 0, .slice none 0 0]) (by kernel_rfl) hH ?_)
 clear hH; intro b5 w6 hH
 refine gl_dn rfl ?_
 refine sw_sr ?_
 refine glo 2 [(1, Pp b1 0), (2, Pp b3 0), (4, Pp b5 0), (5, .func (.func 103) #[] #[Pp b1 0])] ?_
 refine gl_dn rfl ?_
 refine sw_sr ?_
 refine glo 2 [(1, Pp b1 0), (2, Pp b3 0), (4, Pp b5 0), (5, .func (.func 103) #[] #[Pp b1 0]), (11, .func (.func 103) #[] #[Pp b1 0]), (12, Pp b5 0)] ?_
 replace hH : Hp w w6 _ _ ([_, _] ++ [_]) := hH.fr3.fr2
 refine gl_st (st_callv rfl rfl rfl (by kernel_rfl) rfl rfl (ReadNum_ct b1 b5 0 _ p [.int .i64 0, .int .i64 0, .int .i64 0, .int .i64 0, .slice none 0 0] _ hH.mine (hp.mono hH.zoff) (by simp)) ?_)
 rintro _ w12 ⟨vp7, rfl, hN8, hF13⟩
 replace hH := hH.turns hF13; clear hF13
 have hq9 : RB w.cell? vp7 (numT p) := hN8 _ hp
 obtain ⟨A10, c11, rfl, _, _⟩ := hq9.row.form
 replace hH : Hp w w12 _ _ [_, _, _] := hH
 replace hH := hH.blk_eq 2 (cs' := [Ni (numK p), .int .i64 0, .int .i64 0, .int .i64 0, .slice none 0 0]) rfl (rn_set0 _ (.int .i64 0) (.int .i64 0) (.int .i64 0) (.slice none 0 0))
 refine glo 2 [(1, Pp b1 0), (2, Pp b3 0), (4, Pp b5 0), (5, .func (.func 103) #[] #[Pp b1 0]), (13, errV ((takeNum p).2.2)), (14, .func (.func 103) #[] #[Pp b1 0]), (15, Pp b5 1)] ?_
 replace hH : Hp w w12 _ _ ([_, _] ++ [_]) := hH.fr3.fr3
 refine gl_st (st_callv rfl rfl rfl (by kernel_rfl) rfl rfl (ReadNum_ct b1 b5 1 _ (numT p) [Ni (numK p), .int .i64 0, .int .i64 0, .int .i64 0, .slice none 0 0] _ hH.mine (hq9.mono hH.zoff) (by simp)) ?_)
 rintro _ w19 ⟨vp14, rfl, hN15, hF20⟩
 replace hH := hH.turns hF20; clear hF20
 have hq16 : RB w.cell? vp14 (numT (numT p)) := hN15 _ hq9
 obtain ⟨A17, c18, rfl, _, _⟩ := hq16.row.form
 replace hH : Hp w w19 _ _ [_, _, _] := hH
 replace hH := hH.blk_eq 2 (cs' := [Ni (numK p), Ni (numK (numT p)), .int .i64 0, .int .i64 0, .slice none 0 0]) rfl (rn_set1 _ (Ni (numK p)) (.int .i64 0) (.int .i64 0) (.slice none 0 0))
 refine glo 2 [(1, Pp b1 0), (2, Pp b3 0), (4, Pp b5 0), (5, .func (.func 103) #[] #[Pp b1 0]), (13, errV ((takeNum p).2.2)), (16, errV ((takeNum (numT p)).2.2)), (17, .func (.func 103) #[] #[Pp b1 0]), (18, Pp b5 2)] ?_
 replace hH : Hp w w19 _ _ ([_, _] ++ [_]) := hH.fr3.fr3
 refine gl_st (st_callv rfl rfl rfl (by kernel_rfl) rfl rfl (ReadNum_ct b1 b5 2 _ (numT (numT p)) [Ni (numK p), Ni (numK (numT p)), .int .i64 0, .int .i64 0, .slice none 0 0] _ hH.mine (hq16.mono hH.zoff) (by simp)) ?_)
 rintro _ w26 ⟨vp21, rfl, hN22, hF27⟩
 replace hH := hH.turns hF27; clear hF27
 have hq23 : RB w.cell? vp21 (numT (numT (numT p))) := hN22 _ hq16
 obtain ⟨A24, c25, rfl, _, _⟩ := hq23.row.form
 replace hH : Hp w w26 _ _ [_, _, _] := hH
 replace hH := hH.blk_eq 2 (cs' := [Ni (numK p), Ni (numK (numT p)), Ni (numK (numT (numT p))), .int .i64 0, .slice none 0 0]) rfl (rn_set2 _ (Ni (numK p)) (Ni (numK (numT p))) (.int .i64 0) (.slice none 0 0))
 refine gl_st (st_buildF (e := 35) (zv := .nilIface) (bytes := 16) rfl rfl rfl (by kernel_rfl) (by kernel_rfl) rfl (cs := [errV ((takeNum p).2.2), errV ((takeNum (numT p)).2.2), errV ((takeNum (numT (numT p))).2.2)]) (by kernel_rfl) (by simp [errW_cells]) rfl hH ?_)
 clear hH; intro b28 w29 hH
 refine gl_st (st_call rfl rfl rfl (by kernel_rfl) rfl (JoinG_ct _ [jE ((takeNum p).2.2), jE ((takeNum (numT p)).2.2), jE ((takeNum (numT (numT p))).2.2)] _ (by have h9 := hH.row_reads 3 rfl; simp only [← jE_v] at h9; exact h9) (by simp)) ?_)
 rintro _ w33 ⟨b30, z31, rfl, hz32, hF34⟩
 replace hH := hH.call hF34; clear hF34
 replace hz32 := j3 hz32
 refine glo 1 [(1, Pp b1 0), (2, Pp b3 0), (4, Pp b5 0), (5, .func (.func 103) #[] #[Pp b1 0]), (6, ifW z31 213 (.pointer (some ⟨b30, 0, none⟩)))] ?_
 refine gl_dn rfl ?_
 refine sw_seq ?_
 refine sw_sr ?_
 refine glo 1 [(1, Pp b1 0), (2, Pp b3 0), (4, Pp b5 0), (5, .func (.func 103) #[] #[Pp b1 0]), (6, ifW z31 213 (.pointer (some ⟨b30, 0, none⟩))), (22, Pp b5 0)] ?_
 refine gl_q rfl rfl rfl (rd_loadK 2 (by kernel_rfl) hH rfl rfl rfl) ?_
 refine gl_dn rfl ?_
 refine sw_block ?_
 refine sw_seq ?_
 refine sw_block ?_
 refine sw_seq ?_
 refine sw_block ?_
 refine sw_seq ?_
 refine sw_seq ?_
 refine sw_sr ?_
 refine glo 2 [(1, Pp b1 0), (2, Pp b3 0), (4, Pp b5 0), (5, .func (.func 103) #[] #[Pp b1 0]), (6, ifW z31 213 (.pointer (some ⟨b30, 0, none⟩))), (23, Ni (numK p)), (24, .bool (((numK p : Nat) : Int) == (2 : Int)))] ?_
 refine gl_dn rfl ?_
 refine sw_cond rfl rfl (fun hc1 => ?_) (fun hc1 => ?_)
 ·
  try simp only [beq_iff_eq] at hc1
  have hk2 : numK p = 2 := by omega
  refine sw_exit ?_
  refine thX ?_
  refine thX ?_
  refine bkH ?_
  refine sw_next ?_
  refine sw_sr ?_
  refine glo 3 [(1, Pp b1 0), (2, Pp b3 0), (4, Pp b5 0), (29, ifW z31 213 (.pointer (some ⟨b30, 0, none⟩))), (30, .func (.func 103) #[] #[Pp b1 0]), (31, Pp b5 3)] ?_
  replace hH : Hp w w33 _ _ ([_, _] ++ [_, _]) := hH.fr3.fr3
  refine gl_st (st_callv rfl rfl rfl (by kernel_rfl) rfl rfl (ReadNum_ct b1 b5 3 _ (numT (numT (numT p))) [Ni (numK p), Ni (numK (numT p)), Ni (numK (numT (numT p))), .int .i64 0, .slice none 0 0] _ hH.mine (hq23.mono hH.zoff) (by simp)) ?_)
  rintro _ w40 ⟨vp35, rfl, hN36, hF41⟩
  replace hH := hH.turns hF41; clear hF41
  have hq37 : RB w.cell? vp35 (numT (numT (numT (numT p)))) := hN36 _ hq23
  obtain ⟨A38, c39, rfl, _, _⟩ := hq37.row.form
  replace hH : Hp w w40 _ _ [_, _, _, _] := hH
  replace hH := hH.blk_eq 3 (cs' := [Ni (numK p), Ni (numK (numT p)), Ni (numK (numT (numT p))), Ni (numK (numT (numT (numT p)))), .slice none 0 0]) rfl (rn_set3 _ (Ni (numK p)) (Ni (numK (numT p))) (Ni (numK (numT (numT p)))) (.slice none 0 0))
  refine gl_st (st_buildF (e := 35) (zv := .nilIface) (bytes := 16) rfl rfl rfl (by kernel_rfl) (by kernel_rfl) rfl (cs := [ifW z31 213 (.pointer (some ⟨b30, 0, none⟩)), errV ((takeNum (numT (numT (numT p)))).2.2)]) (by kernel_rfl) (by simp [errW_cells, ifW_cells]) rfl hH ?_)
  clear hH; intro b42 w43 hH
  refine gl_st (st_call rfl rfl rfl (by kernel_rfl) rfl (JoinG_ct _ [(z31, 213, .pointer (some ⟨b30, 0, none⟩)), jE ((takeNum (numT (numT (numT p)))).2.2)] _ (by have h9 := hH.row_reads 4 rfl; simp only [← jE_v] at h9; exact h9) (by simp)) ?_)
  rintro _ w47 ⟨b44, z45, rfl, hz46, hF48⟩
  replace hH := hH.call hF48; clear hF48
  replace hz46 := j2 hz46
  refine glo 1 [(1, Pp b1 0), (2, Pp b3 0), (4, Pp b5 0), (6, ifW z45 213 (.pointer (some ⟨b44, 0, none⟩)))] ?_
  refine gl_dn rfl ?_
  refine sw_sr ?_
  refine gl_q rfl rfl rfl (rd_loadK 2 (by kernel_rfl) hH rfl rfl rfl) ?_
  refine gl_st (st_call rfl rfl rfl (by kernel_rfl) rfl (TakeBlob_ct _ _ _ (hq37.mono hH.zin)) ?_)
  rintro _ w51 ⟨v49, rfl, hF52⟩
  replace hH := hH.call hF52; clear hF52
  obtain ⟨A53, c54, rfl, hl55, hm56⟩ := hH.row_form 5 rfl
  refine glo 7 [(1, Pp b1 0), (2, Pp b3 0), (4, Pp b5 0), (6, ifW z45 213 (.pointer (some ⟨b44, 0, none⟩))), (7, .slice A53 (((takeBlob (numT (numT (numT (numT p))))).1).length) c54), (8, Ni ((takeBlob (numT (numT (numT (numT p))))).2.1)), (9, errV ((takeBlob (numT (numT (numT (numT p))))).2.2))] ?_
  refine gl_dn rfl ?_
  refine sw_sr ?_
  refine glo 2 [(1, Pp b1 0), (2, Pp b3 0), (4, Pp b5 0), (7, .slice A53 (((takeBlob (numT (numT (numT (numT p))))).1).length) c54), (8, Ni ((takeBlob (numT (numT (numT (numT p))))).2.1)), (41, ifW z45 213 (.pointer (some ⟨b44, 0, none⟩))), (42, errV ((takeBlob (numT (numT (numT (numT p))))).2.2))] ?_
  refine gl_st (st_buildF (e := 35) (zv := .nilIface) (bytes := 16) rfl rfl rfl (by kernel_rfl) (by kernel_rfl) rfl (cs := [ifW z45 213 (.pointer (some ⟨b44, 0, none⟩)), errV ((takeBlob (numT (numT (numT (numT p))))).2.2)]) (by kernel_rfl) (by simp [errW_cells, ifW_cells]) rfl hH ?_)
  clear hH; intro b57 w58 hH
  refine gl_st (st_call rfl rfl rfl (by kernel_rfl) rfl (JoinG_ct _ [(z45, 213, .pointer (some ⟨b44, 0, none⟩)), jE ((takeBlob (numT (numT (numT (numT p))))).2.2)] _ (by have h9 := hH.row_reads 6 rfl; simp only [← jE_v] at h9; exact h9) (by simp)) ?_)
  rintro _ w62 ⟨b59, z60, rfl, hz61, hF63⟩
  replace hH := hH.call hF63; clear hF63
  replace hz61 := j2 hz61
  refine glo 1 [(1, Pp b1 0), (2, Pp b3 0), (4, Pp b5 0), (6, ifW z60 213 (.pointer (some ⟨b59, 0, none⟩))), (7, .slice A53 (((takeBlob (numT (numT (numT (numT p))))).1).length) c54), (8, Ni ((takeBlob (numT (numT (numT (numT p))))).2.1))] ?_
  refine gl_dn rfl ?_
  refine sw_sr ?_
  refine glo 1 [(1, Pp b1 0), (2, Pp b3 0), (4, Pp b5 0), (6, ifW z60 213 (.pointer (some ⟨b59, 0, none⟩))), (7, .slice A53 (((takeBlob (numT (numT (numT (numT p))))).1).length) c54), (8, Ni ((takeBlob (numT (numT (numT (numT p))))).2.1)), (45, ifW z60 213 (.pointer (some ⟨b59, 0, none⟩)))] ?_
  refine gl_q rfl rfl rfl (rd_if_eq (by kernel_rfl) rfl) ?_
  refine gl_dn rfl ?_
  refine sw_cond rfl rfl (fun hc2 => ?_) (fun hc2 => ?_)
  ·
   have hz3t := hc2
   have hub := takeBlob_used2 (numT (numT (numT (numT p))))
   refine sw_draw (by kernel_rfl) (fun w_ => Hp w w_ (w.cell?) [] [.blk b3 113 [.int .i64 0, .int .i64 0, .int .i64 0, .int .i64 0, .slice none 0 0], .row (.slice (some ⟨b28, 0, none⟩) 3 3) 35 1 3 [errV ((takeNum p).2.2), errV ((takeNum (numT p)).2.2), errV ((takeNum (numT (numT p))).2.2)], .row (.slice (some ⟨b42, 0, none⟩) 2 2) 35 1 2 [ifW z31 213 (.pointer (some ⟨b30, 0, none⟩)), errV ((takeNum (numT (numT (numT p)))).2.2)], .row (.slice A53 (((takeBlob (numT (numT (numT (numT p))))).1).length) c54) 5 1 (((takeBlob (numT (numT (numT (numT p))))).1).length) (bv ((takeBlob (numT (numT (numT (numT p))))).1)), .row (.slice (some ⟨b57, 0, none⟩) 2 2) 35 1 2 [ifW z45 213 (.pointer (some ⟨b44, 0, none⟩)), errV ((takeBlob (numT (numT (numT (numT p))))).2.2)]]) ?_
   replace hH := hH.drew
   generalize { w62 with drawn := w62.drawn + 1 } = w64 at hH ⊢
   have hS9 := hH.sublist (slk (slk (slc (slc (slk (slk (slk sln)))))))
   refine gdo 3 [0,2,4] [(1, Pp b1 0), (2, Pp b3 0), (4, Pp b5 0), (6, ifW z60 213 (.pointer (some ⟨b59, 0, none⟩))), (47, .slice A53 (((takeBlob (numT (numT (numT (numT p))))).1).length) c54), (49, Ni ((takeBlob (numT (numT (numT (numT p))))).2.1)), (51, Pp b5 4)] hS9 (PQ.bk (PQ.th (PQ.bk (PQ.th PQ.body)))) ?_
   refine gd_st2 1 5 (by kernel_rfl) ?_ ?_
   ·
    refine st_q rfl rfl rfl (rd_loadK 2 (by kernel_rfl) hH rfl rfl rfl) ?_
    refine ⟨hS9, ?_⟩
    refine gdk [(1, Pp b1 0), (2, Pp b3 0), (4, Pp b5 0), (6, ifW z60 213 (.pointer (some ⟨b59, 0, none⟩))), (47, .slice A53 (((takeBlob (numT (numT (numT (numT p))))).1).length) c54), (48, .slice A38 ((numT (numT (numT (numT p)))).length) c39), (49, Ni ((takeBlob (numT (numT (numT (numT p))))).2.1)), (51, Pp b5 4)] ?_
    obtain ⟨A65, hk66, hv67⟩ := hq37.row.cut (by decide) ((takeBlob (numT (numT (numT (numT p))))).2.1) ((numT (numT (numT (numT p)))).length) (by omega) (by omega)
    refine gdq 3 rfl (fun w_ hS => (rd_cut (e := 5) (m := 1) (by kernel_rfl) (by kernel_rfl) rfl (.inr ⟨_, _, rfl, rfl⟩) (.inl ⟨rfl, rfl⟩) hk66)) hS9 (PQ.bk (PQ.th (PQ.bk (PQ.th PQ.body)))) ?_
    have hr68 := RB.tail hv67
    refine gds 5 (st_storeK (v := .slice A53 (((takeBlob (numT (numT (numT (numT p))))).1).length) c54) 3 rfl rfl rfl hH rfl rfl rfl (by kernel_rfl) rfl (by simp) ?_)
    clear hH; intro w69 hH
    replace hS9 := hH.sublist (slk (slk (slc (slc (slk (slk (slk sln)))))))
    refine ⟨hS9, ?_⟩
    refine gds 6 (st_storeK (v := .slice A65 (((numT (numT (numT (numT p)))).length) - ((takeBlob (numT (numT (numT (numT p))))).2.1)) (c39 - ((takeBlob (numT (numT (numT (numT p))))).2.1))) 2 rfl rfl rfl hH rfl rfl rfl (by kernel_rfl) rfl (by simp) ?_)
    clear hH; intro w70 hH
    replace hS9 := hH.sublist (slk (slk (slc (slc (slk (slk (slk sln)))))))
    refine ⟨hS9, ?_⟩
    refine gdk [(1, Pp b1 0), (2, Pp b3 0), (4, Pp b5 0), (6, ifW z60 213 (.pointer (some ⟨b59, 0, none⟩)))] ?_
    refine gdn [(1, Pp b1 0), (2, Pp b3 0), (4, Pp b5 0), (6, ifW z60 213 (.pointer (some ⟨b59, 0, none⟩)))] ?_
    refine bkN ?_
    refine sw_next ?_
    refine sw_seq ?_
    refine sw_sr ?_
    refine glo 1 [(1, Pp b1 0), (2, Pp b3 0), (4, Pp b5 0), (52, ifW z60 213 (.pointer (some ⟨b59, 0, none⟩)))] ?_
    refine gl_q rfl rfl rfl (rd_if_eq (by kernel_rfl) rfl) ?_
    refine glo 1 [(1, Pp b1 0), (2, Pp b3 0), (4, Pp b5 0), (54, .bool z60)] ?_
    refine gl_split 54 (b := z60) rfl (fun hg3 => ?_) (fun hg3 => ?_)
    ·
     have hn2 := hz61.1 hg3
     have hn1 := hz46.1 hn2.1
     have hall := hz32.1 hn1.1
     have he4 := hn1.2
     have he5 := hn2.2
     have hn4 : ¬ (takeNum (numT (numT (numT p)))).2.2 ≠ 0 := fun h => h he4
     have hn5 : ¬ (takeBlob (numT (numT (numT (numT p))))).2.2 ≠ 0 := fun h => h he5
     refine gl_q rfl rfl rfl (rd_loadK 2 (by kernel_rfl) hH rfl rfl rfl) ?_
     refine gl_q rfl rfl rfl (rd_len (e := 5) (by kernel_rfl) rfl) ?_
     refine glo 2 [(2, Pp b3 0), (4, Pp b5 0), (58, .bool (((((numT (numT (numT (numT p)))).length) - ((takeBlob (numT (numT (numT (numT p))))).2.1) : Nat) : Int) == (0 : Int)))] ?_
     refine gl_dn rfl ?_
     refine sw_cond rfl rfl (fun hc4 => ?_) (fun hc4 => ?_)
     ·
      try simp only [beq_iff_eq] at hc4
      have hnil : (numT (numT (numT (numT p)))).drop (takeBlob (numT (numT (numT (numT p))))).2.1 = [] := List.eq_nil_of_length_eq_zero (by first | omega | (simp only [List.length_drop] at *; omega))
      refine sw_sr ?_
      refine gl_q rfl rfl rfl (rd_loadKA (m := 5) 3 (by kernel_rfl) hH rfl rfl (by kernel_rfl) [Ni (numK p), Ni (numK (numT p)), Ni (numK (numT (numT p))), Ni (numK (numT (numT (numT p)))), .slice A53 (((takeBlob (numT (numT (numT (numT p))))).1).length) c54] rfl rfl) ?_
      refine gl_st (st_storeKA (vs := [Ni (numK p), Ni (numK (numT p)), Ni (numK (numT (numT p))), Ni (numK (numT (numT (numT p)))), .slice A53 (((takeBlob (numT (numT (numT (numT p))))).1).length) c54]) 0 rfl rfl rfl hH rfl rfl (by kernel_rfl) (by kernel_rfl) rfl (by simp) [Ni (numK p), Ni (numK (numT p)), Ni (numK (numT (numT p))), Ni (numK (numT (numT (numT p)))), .slice A53 (((takeBlob (numT (numT (numT (numT p))))).1).length) c54] rfl ?_)
      clear hH; intro w71 hH
      refine glo 1 [(2, Pp b3 0), (3, .nilIface)] ?_
      refine gl_dn rfl ?_
      refine sw_ret ?_
      refine thR ?_
      refine bkR ?_
      refine thR ?_
      refine retC2 rfl (RS.cellA hH 0 (by kernel_rfl) rfl rfl (by kernel_rfl) [Ni (numK p), Ni (numK (numT p)), Ni (numK (numT (numT p))), Ni (numK (numT (numT (numT p)))), .slice A53 (((takeBlob (numT (numT (numT (numT p))))).1).length) c54] rfl rfl) (RS.tmp rfl) ?_
      have hr : readR p = some ⟨numK p, numK (numT p), numK (numT (numT p)), numK (numT (numT (numT p))), (takeBlob (numT (numT (numT (numT p))))).1⟩ := by rw [readR_one hall, if_pos hk2, if_neg hn4, if_neg hn5, if_pos hnil, hk2]
      replace hH := (hH.sublist (slc (slc (slc (slc (slc (slk sln)))))))
      replace hH : Hp w w71 _ _ [.row (.slice A53 (((takeBlob (numT (numT (numT (numT p))))).1).length) c54) 5 1 (((takeBlob (numT (numT (numT (numT p))))).1).length) (bv ((takeBlob (numT (numT (numT (numT p))))).1))] := hH
      clear hall hnil
      generalize (takeBlob (numT (numT (numT (numT p))))).1 = y4 at *
      generalize numK (numT (numT (numT p))) = y3 at *
      generalize numK (numT (numT p)) = y2 at *
      generalize numK (numT p) = y1 at *
      generalize numK p = y0 at *
      exact .inr ⟨_, _, hr, rfl, hH.fresh⟩
     try simp only [beq_eq_false_iff_ne, ne_eq] at hc4
     refine sw_skip ?_
     refine sw_next ?_
     refine sw_exit ?_
     refine bkH ?_
     refine sw_next ?_
     refine sw_sr ?_
     refine glo 2 [(2, Pp b3 0), (60, .agg #[.int .i64 0, .int .i64 0, .int .i64 0, .int .i64 0, .slice none 0 0]), (61, .agg #[.int .i64 90, .int .i64 0])] ?_
     refine gl_st (st_boxH (cs := [.int .i64 90, .int .i64 0]) rfl rfl rfl rfl hH ?_)
     clear hH; intro b72 w73 hH
     refine glo 1 [(2, Pp b3 0), (60, .agg #[.int .i64 0, .int .i64 0, .int .i64 0, .int .i64 0, .slice none 0 0]), (63, .iface 178 (Pp b72 0))] ?_
     refine gl_st (st_storeKA (vs := [.int .i64 0, .int .i64 0, .int .i64 0, .int .i64 0, .slice none 0 0]) 0 rfl rfl rfl hH rfl rfl (by kernel_rfl) (by kernel_rfl) rfl (by simp) [.int .i64 0, .int .i64 0, .int .i64 0, .int .i64 0, .slice none 0 0] rfl ?_)
     clear hH; intro w74 hH
     refine glo 1 [(2, Pp b3 0), (3, .iface 178 (Pp b72 0))] ?_
     refine gl_dn rfl ?_
     refine sw_ret ?_
     refine retC2 rfl (RS.cellA hH 0 (by kernel_rfl) rfl rfl (by kernel_rfl) [.int .i64 0, .int .i64 0, .int .i64 0, .int .i64 0, .slice none 0 0] rfl rfl) (RS.tmp rfl) ?_
     have hnone : readR p = none := by
      rw [readR_one hall, if_pos hk2, if_neg hn4, if_neg hn5, if_neg (fun h => by have := congrArg List.length h; simp only [List.length_drop, List.length_nil] at this; omega)]
     exact .inl ⟨b72, hnone, rfl, (hH.sublist (slc (slc (slc (slc (slc (slc (slc (slk sln))))))))).fresh⟩
    exact Bool.noConfusion (hz3t.symm.trans hg3)
   ·
    refine st_storeK (v := .slice A53 (((takeBlob (numT (numT (numT (numT p))))).1).length) c54) 3 rfl rfl rfl hH rfl rfl rfl (by kernel_rfl) rfl (by simp) ?_
    clear hH; intro w75 hH
    replace hS9 := hH.sublist (slk (slk (slc (slc (slk (slk (slk sln)))))))
    refine ⟨hS9, ?_⟩
    refine gdk [(1, Pp b1 0), (2, Pp b3 0), (4, Pp b5 0), (6, ifW z60 213 (.pointer (some ⟨b59, 0, none⟩))), (49, Ni ((takeBlob (numT (numT (numT (numT p))))).2.1))] ?_
    refine gds 1 (st_q rfl rfl rfl (rd_loadK 2 (by kernel_rfl) hH rfl rfl rfl) ?_)
    refine ⟨hS9, ?_⟩
    obtain ⟨A76, hk77, hv78⟩ := hq37.row.cut (by decide) ((takeBlob (numT (numT (numT (numT p))))).2.1) ((numT (numT (numT (numT p)))).length) (by omega) (by omega)
    refine gdq 3 rfl (fun w_ hS => (rd_cut (e := 5) (m := 1) (by kernel_rfl) (by kernel_rfl) rfl (.inr ⟨_, _, rfl, rfl⟩) (.inl ⟨rfl, rfl⟩) hk77)) hS9 (PQ.bk (PQ.th (PQ.bk (PQ.th PQ.body)))) ?_
    have hr79 := RB.tail hv78
    refine gds 6 (st_storeK (v := .slice A76 (((numT (numT (numT (numT p)))).length) - ((takeBlob (numT (numT (numT (numT p))))).2.1)) (c39 - ((takeBlob (numT (numT (numT (numT p))))).2.1))) 2 rfl rfl rfl hH rfl rfl rfl (by kernel_rfl) rfl (by simp) ?_)
    clear hH; intro w80 hH
    replace hS9 := hH.sublist (slk (slk (slc (slc (slk (slk (slk sln)))))))
    refine ⟨hS9, ?_⟩
    refine gdk [(1, Pp b1 0), (2, Pp b3 0), (4, Pp b5 0), (6, ifW z60 213 (.pointer (some ⟨b59, 0, none⟩)))] ?_
    refine gdn [(1, Pp b1 0), (2, Pp b3 0), (4, Pp b5 0), (6, ifW z60 213 (.pointer (some ⟨b59, 0, none⟩)))] ?_
    refine bkN ?_
    refine sw_next ?_
    refine sw_seq ?_
    refine sw_sr ?_
    refine glo 1 [(1, Pp b1 0), (2, Pp b3 0), (4, Pp b5 0), (52, ifW z60 213 (.pointer (some ⟨b59, 0, none⟩)))] ?_
    refine gl_q rfl rfl rfl (rd_if_eq (by kernel_rfl) rfl) ?_
    refine glo 1 [(1, Pp b1 0), (2, Pp b3 0), (4, Pp b5 0), (54, .bool z60)] ?_
    refine gl_split 54 (b := z60) rfl (fun hg5 => ?_) (fun hg5 => ?_)
    ·
     have hn2 := hz61.1 hg5
     have hn1 := hz46.1 hn2.1
     have hall := hz32.1 hn1.1
     have he4 := hn1.2
     have he5 := hn2.2
     have hn4 : ¬ (takeNum (numT (numT (numT p)))).2.2 ≠ 0 := fun h => h he4
     have hn5 : ¬ (takeBlob (numT (numT (numT (numT p))))).2.2 ≠ 0 := fun h => h he5
     refine gl_q rfl rfl rfl (rd_loadK 2 (by kernel_rfl) hH rfl rfl rfl) ?_
     refine gl_q rfl rfl rfl (rd_len (e := 5) (by kernel_rfl) rfl) ?_
     refine glo 2 [(2, Pp b3 0), (4, Pp b5 0), (58, .bool (((((numT (numT (numT (numT p)))).length) - ((takeBlob (numT (numT (numT (numT p))))).2.1) : Nat) : Int) == (0 : Int)))] ?_
     refine gl_dn rfl ?_
     refine sw_cond rfl rfl (fun hc6 => ?_) (fun hc6 => ?_)
     ·
      try simp only [beq_iff_eq] at hc6
      have hnil : (numT (numT (numT (numT p)))).drop (takeBlob (numT (numT (numT (numT p))))).2.1 = [] := List.eq_nil_of_length_eq_zero (by first | omega | (simp only [List.length_drop] at *; omega))
      refine sw_sr ?_
      refine gl_q rfl rfl rfl (rd_loadKA (m := 5) 3 (by kernel_rfl) hH rfl rfl (by kernel_rfl) [Ni (numK p), Ni (numK (numT p)), Ni (numK (numT (numT p))), Ni (numK (numT (numT (numT p)))), .slice A53 (((takeBlob (numT (numT (numT (numT p))))).1).length) c54] rfl rfl) ?_
      refine gl_st (st_storeKA (vs := [Ni (numK p), Ni (numK (numT p)), Ni (numK (numT (numT p))), Ni (numK (numT (numT (numT p)))), .slice A53 (((takeBlob (numT (numT (numT (numT p))))).1).length) c54]) 0 rfl rfl rfl hH rfl rfl (by kernel_rfl) (by kernel_rfl) rfl (by simp) [Ni (numK p), Ni (numK (numT p)), Ni (numK (numT (numT p))), Ni (numK (numT (numT (numT p)))), .slice A53 (((takeBlob (numT (numT (numT (numT p))))).1).length) c54] rfl ?_)
      clear hH; intro w81 hH
      refine glo 1 [(2, Pp b3 0), (3, .nilIface)] ?_
      refine gl_dn rfl ?_
      refine sw_ret ?_
      refine thR ?_
      refine bkR ?_
      refine thR ?_
      refine retC2 rfl (RS.cellA hH 0 (by kernel_rfl) rfl rfl (by kernel_rfl) [Ni (numK p), Ni (numK (numT p)), Ni (numK (numT (numT p))), Ni (numK (numT (numT (numT p)))), .slice A53 (((takeBlob (numT (numT (numT (numT p))))).1).length) c54] rfl rfl) (RS.tmp rfl) ?_
      have hr : readR p = some ⟨numK p, numK (numT p), numK (numT (numT p)), numK (numT (numT (numT p))), (takeBlob (numT (numT (numT (numT p))))).1⟩ := by rw [readR_one hall, if_pos hk2, if_neg hn4, if_neg hn5, if_pos hnil, hk2]
      replace hH := (hH.sublist (slc (slc (slc (slc (slc (slk sln)))))))
      replace hH : Hp w w81 _ _ [.row (.slice A53 (((takeBlob (numT (numT (numT (numT p))))).1).length) c54) 5 1 (((takeBlob (numT (numT (numT (numT p))))).1).length) (bv ((takeBlob (numT (numT (numT (numT p))))).1))] := hH
      clear hall hnil
      generalize (takeBlob (numT (numT (numT (numT p))))).1 = y4 at *
      generalize numK (numT (numT (numT p))) = y3 at *
      generalize numK (numT (numT p)) = y2 at *
      generalize numK (numT p) = y1 at *
      generalize numK p = y0 at *
      exact .inr ⟨_, _, hr, rfl, hH.fresh⟩
     try simp only [beq_eq_false_iff_ne, ne_eq] at hc6
     refine sw_skip ?_
     refine sw_next ?_
     refine sw_exit ?_
     refine bkH ?_
     refine sw_next ?_
     refine sw_sr ?_
     refine glo 2 [(2, Pp b3 0), (60, .agg #[.int .i64 0, .int .i64 0, .int .i64 0, .int .i64 0, .slice none 0 0]), (61, .agg #[.int .i64 90, .int .i64 0])] ?_
     refine gl_st (st_boxH (cs := [.int .i64 90, .int .i64 0]) rfl rfl rfl rfl hH ?_)
     clear hH; intro b82 w83 hH
     refine glo 1 [(2, Pp b3 0), (60, .agg #[.int .i64 0, .int .i64 0, .int .i64 0, .int .i64 0, .slice none 0 0]), (63, .iface 178 (Pp b82 0))] ?_
     refine gl_st (st_storeKA (vs := [.int .i64 0, .int .i64 0, .int .i64 0, .int .i64 0, .slice none 0 0]) 0 rfl rfl rfl hH rfl rfl (by kernel_rfl) (by kernel_rfl) rfl (by simp) [.int .i64 0, .int .i64 0, .int .i64 0, .int .i64 0, .slice none 0 0] rfl ?_)
     clear hH; intro w84 hH
     refine glo 1 [(2, Pp b3 0), (3, .iface 178 (Pp b82 0))] ?_
     refine gl_dn rfl ?_
     refine sw_ret ?_
     refine retC2 rfl (RS.cellA hH 0 (by kernel_rfl) rfl rfl (by kernel_rfl) [.int .i64 0, .int .i64 0, .int .i64 0, .int .i64 0, .slice none 0 0] rfl rfl) (RS.tmp rfl) ?_
     have hnone : readR p = none := by
      rw [readR_one hall, if_pos hk2, if_neg hn4, if_neg hn5, if_neg (fun h => by have := congrArg List.length h; simp only [List.length_drop, List.length_nil] at this; omega)]
     exact .inl ⟨b82, hnone, rfl, (hH.sublist (slc (slc (slc (slc (slc (slc (slc (slk sln))))))))).fresh⟩
    exact Bool.noConfusion (hz3t.symm.trans hg5)
  have hz3f := hc2
  refine sw_skip ?_
  refine bkN ?_
  refine sw_next ?_
  refine sw_seq ?_
  refine sw_sr ?_
  refine glo 1 [(1, Pp b1 0), (2, Pp b3 0), (4, Pp b5 0), (52, ifW z60 213 (.pointer (some ⟨b59, 0, none⟩)))] ?_
  refine gl_q rfl rfl rfl (rd_if_eq (by kernel_rfl) rfl) ?_
  refine glo 1 [(1, Pp b1 0), (2, Pp b3 0), (4, Pp b5 0), (54, .bool z60)] ?_
  refine gl_split 54 (b := z60) rfl (fun hg7 => ?_) (fun hg7 => ?_)
  ·
   exact Bool.noConfusion (hz3f.symm.trans hg7)
  refine glo 4 [(2, Pp b3 0), (4, Pp b5 0), (58, .bool false)] ?_
  refine gl_dn rfl ?_
  refine sw_false rfl rfl ?_
  refine sw_skip ?_
  refine sw_next ?_
  refine sw_exit ?_
  refine bkH ?_
  refine sw_next ?_
  refine sw_sr ?_
  refine glo 2 [(2, Pp b3 0), (60, .agg #[.int .i64 0, .int .i64 0, .int .i64 0, .int .i64 0, .slice none 0 0]), (61, .agg #[.int .i64 90, .int .i64 0])] ?_
  refine gl_st (st_boxH (cs := [.int .i64 90, .int .i64 0]) rfl rfl rfl rfl hH ?_)
  clear hH; intro b85 w86 hH
  refine glo 1 [(2, Pp b3 0), (60, .agg #[.int .i64 0, .int .i64 0, .int .i64 0, .int .i64 0, .slice none 0 0]), (63, .iface 178 (Pp b85 0))] ?_
  refine gl_st (st_storeKA (vs := [.int .i64 0, .int .i64 0, .int .i64 0, .int .i64 0, .slice none 0 0]) 0 rfl rfl rfl hH rfl rfl (by kernel_rfl) (by kernel_rfl) rfl (by simp) [.int .i64 0, .int .i64 0, .int .i64 0, .int .i64 0, .slice none 0 0] rfl ?_)
  clear hH; intro w87 hH
  refine glo 1 [(2, Pp b3 0), (3, .iface 178 (Pp b85 0))] ?_
  refine gl_dn rfl ?_
  refine sw_ret ?_
  refine retC2 rfl (RS.cellA hH 0 (by kernel_rfl) rfl rfl (by kernel_rfl) [.int .i64 0, .int .i64 0, .int .i64 0, .int .i64 0, .slice none 0 0] rfl rfl) (RS.tmp rfl) ?_
  have hnone : readR p = none := by
   refine Classical.byContradiction fun hx => ?_
   have hall := Classical.byContradiction fun h9 => hx (readR_bad h9)
   rw [readR_one hall, if_pos hk2] at hx
   by_cases he4 : (takeNum (numT (numT (numT p)))).2.2 = 0
   · have hn4 : ¬ (takeNum (numT (numT (numT p)))).2.2 ≠ 0 := fun h => h he4
     by_cases he5 : (takeBlob (numT (numT (numT (numT p))))).2.2 = 0
     · exact Bool.noConfusion ((hz61.2 ⟨hz46.2 ⟨hz32.2 hall, he4⟩, he5⟩).symm.trans hg7)
     · have hn5 : (takeBlob (numT (numT (numT (numT p))))).2.2 ≠ 0 := he5
       rw [if_neg hn4, if_pos hn5] at hx; exact hx rfl
   · have hn4 : (takeNum (numT (numT (numT p)))).2.2 ≠ 0 := he4
     rw [if_pos hn4] at hx; exact hx rfl
  exact .inl ⟨b85, hnone, rfl, (hH.sublist (slc (slc (slc (slc (slc (slc (slc (slk sln))))))))).fresh⟩
 try simp only [beq_eq_false_iff_ne, ne_eq] at hc1
 have hk2 : ¬ numK p = 2 := by omega
 refine sw_skip ?_
 refine sw_next ?_
 refine sw_seq ?_
 refine sw_sr ?_
 refine glo 2 [(1, Pp b1 0), (2, Pp b3 0), (4, Pp b5 0), (6, ifW z31 213 (.pointer (some ⟨b30, 0, none⟩))), (23, Ni (numK p)), (26, .bool (((numK p : Nat) : Int) == (1 : Int)))] ?_
 refine gl_dn rfl ?_
 refine sw_cond rfl rfl (fun hc9 => ?_) (fun hc9 => ?_)
 ·
  try simp only [beq_iff_eq] at hc9
  refine sw_skip ?_
  refine sw_next ?_
  refine sw_cond rfl rfl (fun hc10 => ?_) (fun hc10 => ?_)
  ·
   try simp only [beq_iff_eq] at hc10
   refine sw_exit ?_
   refine thX ?_
   refine bkX rfl ?_
   refine thX ?_
   refine bkH ?_
   refine sw_next ?_
   refine sw_seq ?_
   refine sw_sr ?_
   refine glo 1 [(1, Pp b1 0), (2, Pp b3 0), (4, Pp b5 0), (52, ifW z31 213 (.pointer (some ⟨b30, 0, none⟩)))] ?_
   refine gl_q rfl rfl rfl (rd_if_eq (by kernel_rfl) rfl) ?_
   refine glo 1 [(1, Pp b1 0), (2, Pp b3 0), (4, Pp b5 0), (54, .bool z31)] ?_
   refine gl_split 54 (b := z31) rfl (fun hg11 => ?_) (fun hg11 => ?_)
   ·
    have hall := hz32.1 hg11
    refine gl_q rfl rfl rfl (rd_loadK 1 (by kernel_rfl) hH rfl rfl rfl) ?_
    refine gl_q rfl rfl rfl (rd_len (e := 5) (by kernel_rfl) rfl) ?_
    refine glo 2 [(2, Pp b3 0), (4, Pp b5 0), (58, .bool ((((numT (numT (numT p))).length : Nat) : Int) == (0 : Int)))] ?_
    refine gl_dn rfl ?_
    refine sw_cond rfl rfl (fun hc12 => ?_) (fun hc12 => ?_)
    ·
     try simp only [beq_iff_eq] at hc12
     have hnil : (numT (numT (numT p))) = [] := List.eq_nil_of_length_eq_zero (by first | omega | (simp only [List.length_drop] at *; omega))
     refine sw_sr ?_
     refine gl_q rfl rfl rfl (rd_loadKA (m := 5) 2 (by kernel_rfl) hH rfl rfl (by kernel_rfl) [Ni (numK p), Ni (numK (numT p)), Ni (numK (numT (numT p))), .int .i64 0, .slice none 0 0] rfl rfl) ?_
     refine gl_st (st_storeKA (vs := [Ni (numK p), Ni (numK (numT p)), Ni (numK (numT (numT p))), .int .i64 0, .slice none 0 0]) 0 rfl rfl rfl hH rfl rfl (by kernel_rfl) (by kernel_rfl) rfl (by simp) [Ni (numK p), Ni (numK (numT p)), Ni (numK (numT (numT p))), .int .i64 0, .slice none 0 0] rfl ?_)
     clear hH; intro w88 hH
     refine glo 1 [(2, Pp b3 0), (3, .nilIface)] ?_
     refine gl_dn rfl ?_
     refine sw_ret ?_
     refine thR ?_
     refine bkR ?_
     refine thR ?_
     refine retC2 rfl (RS.cellA hH 0 (by kernel_rfl) rfl rfl (by kernel_rfl) [Ni (numK p), Ni (numK (numT p)), Ni (numK (numT (numT p))), .int .i64 0, .slice none 0 0] rfl rfl) (RS.tmp rfl) ?_
     replace hH := hH.nilRow 5 1
     have hr : readR p = some ⟨numK p, numK (numT p), numK (numT (numT p)), 0, []⟩ := by rw [readR_one hall, if_neg (by omega), if_pos ⟨by omega, hnil⟩]
     replace hH := (hH.sublist (slc (slc (slc (slc (slk sln))))))
     replace hH : Hp w w88 _ _ [.row (.slice none 0 0) 5 1 0 []] := hH
     clear hall hnil
     generalize (takeBlob (numT (numT (numT (numT p))))).1 = y4 at *
     generalize numK (numT (numT (numT p))) = y3 at *
     generalize numK (numT (numT p)) = y2 at *
     generalize numK (numT p) = y1 at *
     generalize numK p = y0 at *
     exact .inr ⟨_, _, hr, rfl, hH.fresh⟩
    try simp only [beq_eq_false_iff_ne, ne_eq] at hc12
    refine sw_skip ?_
    refine sw_next ?_
    refine sw_exit ?_
    refine bkH ?_
    refine sw_next ?_
    refine sw_sr ?_
    refine glo 2 [(2, Pp b3 0), (60, .agg #[.int .i64 0, .int .i64 0, .int .i64 0, .int .i64 0, .slice none 0 0]), (61, .agg #[.int .i64 90, .int .i64 0])] ?_
    refine gl_st (st_boxH (cs := [.int .i64 90, .int .i64 0]) rfl rfl rfl rfl hH ?_)
    clear hH; intro b89 w90 hH
    refine glo 1 [(2, Pp b3 0), (60, .agg #[.int .i64 0, .int .i64 0, .int .i64 0, .int .i64 0, .slice none 0 0]), (63, .iface 178 (Pp b89 0))] ?_
    refine gl_st (st_storeKA (vs := [.int .i64 0, .int .i64 0, .int .i64 0, .int .i64 0, .slice none 0 0]) 0 rfl rfl rfl hH rfl rfl (by kernel_rfl) (by kernel_rfl) rfl (by simp) [.int .i64 0, .int .i64 0, .int .i64 0, .int .i64 0, .slice none 0 0] rfl ?_)
    clear hH; intro w91 hH
    refine glo 1 [(2, Pp b3 0), (3, .iface 178 (Pp b89 0))] ?_
    refine gl_dn rfl ?_
    refine sw_ret ?_
    refine retC2 rfl (RS.cellA hH 0 (by kernel_rfl) rfl rfl (by kernel_rfl) [.int .i64 0, .int .i64 0, .int .i64 0, .int .i64 0, .slice none 0 0] rfl rfl) (RS.tmp rfl) ?_
    have hnone : readR p = none := by
     rw [readR_one hall, if_neg hk2, if_neg (fun h => by have := congrArg List.length h.2; simp only [List.length_nil] at this; omega)]
    exact .inl ⟨b89, hnone, rfl, (hH.sublist (slc (slc (slc (slc (slk sln)))))).fresh⟩
   refine glo 4 [(2, Pp b3 0), (4, Pp b5 0), (58, .bool false)] ?_
   refine gl_dn rfl ?_
   refine sw_false rfl rfl ?_
   refine sw_skip ?_
   refine sw_next ?_
   refine sw_exit ?_
   refine bkH ?_
   refine sw_next ?_
   refine sw_sr ?_
   refine glo 2 [(2, Pp b3 0), (60, .agg #[.int .i64 0, .int .i64 0, .int .i64 0, .int .i64 0, .slice none 0 0]), (61, .agg #[.int .i64 90, .int .i64 0])] ?_
   refine gl_st (st_boxH (cs := [.int .i64 90, .int .i64 0]) rfl rfl rfl rfl hH ?_)
   clear hH; intro b92 w93 hH
   refine glo 1 [(2, Pp b3 0), (60, .agg #[.int .i64 0, .int .i64 0, .int .i64 0, .int .i64 0, .slice none 0 0]), (63, .iface 178 (Pp b92 0))] ?_
   refine gl_st (st_storeKA (vs := [.int .i64 0, .int .i64 0, .int .i64 0, .int .i64 0, .slice none 0 0]) 0 rfl rfl rfl hH rfl rfl (by kernel_rfl) (by kernel_rfl) rfl (by simp) [.int .i64 0, .int .i64 0, .int .i64 0, .int .i64 0, .slice none 0 0] rfl ?_)
   clear hH; intro w94 hH
   refine glo 1 [(2, Pp b3 0), (3, .iface 178 (Pp b92 0))] ?_
   refine gl_dn rfl ?_
   refine sw_ret ?_
   refine retC2 rfl (RS.cellA hH 0 (by kernel_rfl) rfl rfl (by kernel_rfl) [.int .i64 0, .int .i64 0, .int .i64 0, .int .i64 0, .slice none 0 0] rfl rfl) (RS.tmp rfl) ?_
   have hnone : readR p = none := by
    exact readR_bad (fun h9 => Bool.noConfusion ((hz32.2 h9).symm.trans hg11))
   exact .inl ⟨b92, hnone, rfl, (hH.sublist (slc (slc (slc (slc (slk sln)))))).fresh⟩
  try simp only [beq_eq_false_iff_ne, ne_eq] at hc10
  refine sw_skip ?_
  refine sw_next ?_
  refine sw_exit ?_
  refine bkX rfl ?_
  refine thX ?_
  refine bkX rfl ?_
  refine thX ?_
  refine bkH ?_
  refine sw_next ?_
  refine sw_sr ?_
  refine glo 2 [(2, Pp b3 0), (60, .agg #[.int .i64 0, .int .i64 0, .int .i64 0, .int .i64 0, .slice none 0 0]), (61, .agg #[.int .i64 90, .int .i64 0])] ?_
  refine gl_st (st_boxH (cs := [.int .i64 90, .int .i64 0]) rfl rfl rfl rfl hH ?_)
  clear hH; intro b95 w96 hH
  refine glo 1 [(2, Pp b3 0), (60, .agg #[.int .i64 0, .int .i64 0, .int .i64 0, .int .i64 0, .slice none 0 0]), (63, .iface 178 (Pp b95 0))] ?_
  refine gl_st (st_storeKA (vs := [.int .i64 0, .int .i64 0, .int .i64 0, .int .i64 0, .slice none 0 0]) 0 rfl rfl rfl hH rfl rfl (by kernel_rfl) (by kernel_rfl) rfl (by simp) [.int .i64 0, .int .i64 0, .int .i64 0, .int .i64 0, .slice none 0 0] rfl ?_)
  clear hH; intro w97 hH
  refine glo 1 [(2, Pp b3 0), (3, .iface 178 (Pp b95 0))] ?_
  refine gl_dn rfl ?_
  refine sw_ret ?_
  refine retC2 rfl (RS.cellA hH 0 (by kernel_rfl) rfl rfl (by kernel_rfl) [.int .i64 0, .int .i64 0, .int .i64 0, .int .i64 0, .slice none 0 0] rfl rfl) (RS.tmp rfl) ?_
  have hnone : readR p = none := by
   refine Classical.byContradiction fun hx => ?_
   have hall := Classical.byContradiction fun h9 => hx (readR_bad h9)
   rw [readR_one hall, if_neg hk2, if_neg (by omega)] at hx
   exact hx rfl
  exact .inl ⟨b95, hnone, rfl, (hH.sublist (slc (slc (slc (slc (slk sln)))))).fresh⟩
 try simp only [beq_eq_false_iff_ne, ne_eq] at hc9
 refine sw_region ?_
 refine glo 2 [(1, Pp b1 0), (2, Pp b3 0), (4, Pp b5 0), (6, ifW z31 213 (.pointer (some ⟨b30, 0, none⟩))), (26, .bool (((numK p : Nat) : Int) == (3 : Int)))] ?_
 refine gl_done rfl ?_
 refine sw_next ?_
 refine sw_cond rfl rfl (fun hc14 => ?_) (fun hc14 => ?_)
 ·
  try simp only [beq_iff_eq] at hc14
  refine sw_exit ?_
  refine thX ?_
  refine bkX rfl ?_
  refine thX ?_
  refine bkH ?_
  refine sw_next ?_
  refine sw_seq ?_
  refine sw_sr ?_
  refine glo 1 [(1, Pp b1 0), (2, Pp b3 0), (4, Pp b5 0), (52, ifW z31 213 (.pointer (some ⟨b30, 0, none⟩)))] ?_
  refine gl_q rfl rfl rfl (rd_if_eq (by kernel_rfl) rfl) ?_
  refine glo 1 [(1, Pp b1 0), (2, Pp b3 0), (4, Pp b5 0), (54, .bool z31)] ?_
  refine gl_split 54 (b := z31) rfl (fun hg15 => ?_) (fun hg15 => ?_)
  ·
   have hall := hz32.1 hg15
   refine gl_q rfl rfl rfl (rd_loadK 1 (by kernel_rfl) hH rfl rfl rfl) ?_
   refine gl_q rfl rfl rfl (rd_len (e := 5) (by kernel_rfl) rfl) ?_
   refine glo 2 [(2, Pp b3 0), (4, Pp b5 0), (58, .bool ((((numT (numT (numT p))).length : Nat) : Int) == (0 : Int)))] ?_
   refine gl_dn rfl ?_
   refine sw_cond rfl rfl (fun hc16 => ?_) (fun hc16 => ?_)
   ·
    try simp only [beq_iff_eq] at hc16
    have hnil : (numT (numT (numT p))) = [] := List.eq_nil_of_length_eq_zero (by first | omega | (simp only [List.length_drop] at *; omega))
    refine sw_sr ?_
    refine gl_q rfl rfl rfl (rd_loadKA (m := 5) 2 (by kernel_rfl) hH rfl rfl (by kernel_rfl) [Ni (numK p), Ni (numK (numT p)), Ni (numK (numT (numT p))), .int .i64 0, .slice none 0 0] rfl rfl) ?_
    refine gl_st (st_storeKA (vs := [Ni (numK p), Ni (numK (numT p)), Ni (numK (numT (numT p))), .int .i64 0, .slice none 0 0]) 0 rfl rfl rfl hH rfl rfl (by kernel_rfl) (by kernel_rfl) rfl (by simp) [Ni (numK p), Ni (numK (numT p)), Ni (numK (numT (numT p))), .int .i64 0, .slice none 0 0] rfl ?_)
    clear hH; intro w98 hH
    refine glo 1 [(2, Pp b3 0), (3, .nilIface)] ?_
    refine gl_dn rfl ?_
    refine sw_ret ?_
    refine thR ?_
    refine bkR ?_
    refine thR ?_
    refine retC2 rfl (RS.cellA hH 0 (by kernel_rfl) rfl rfl (by kernel_rfl) [Ni (numK p), Ni (numK (numT p)), Ni (numK (numT (numT p))), .int .i64 0, .slice none 0 0] rfl rfl) (RS.tmp rfl) ?_
    replace hH := hH.nilRow 5 1
    have hr : readR p = some ⟨numK p, numK (numT p), numK (numT (numT p)), 0, []⟩ := by rw [readR_one hall, if_neg (by omega), if_pos ⟨by omega, hnil⟩]
    replace hH := (hH.sublist (slc (slc (slc (slc (slk sln))))))
    replace hH : Hp w w98 _ _ [.row (.slice none 0 0) 5 1 0 []] := hH
    clear hall hnil
    generalize (takeBlob (numT (numT (numT (numT p))))).1 = y4 at *
    generalize numK (numT (numT (numT p))) = y3 at *
    generalize numK (numT (numT p)) = y2 at *
    generalize numK (numT p) = y1 at *
    generalize numK p = y0 at *
    exact .inr ⟨_, _, hr, rfl, hH.fresh⟩
   try simp only [beq_eq_false_iff_ne, ne_eq] at hc16
   refine sw_skip ?_
   refine sw_next ?_
   refine sw_exit ?_
   refine bkH ?_
   refine sw_next ?_
   refine sw_sr ?_
   refine glo 2 [(2, Pp b3 0), (60, .agg #[.int .i64 0, .int .i64 0, .int .i64 0, .int .i64 0, .slice none 0 0]), (61, .agg #[.int .i64 90, .int .i64 0])] ?_
   refine gl_st (st_boxH (cs := [.int .i64 90, .int .i64 0]) rfl rfl rfl rfl hH ?_)
   clear hH; intro b99 w100 hH
   refine glo 1 [(2, Pp b3 0), (60, .agg #[.int .i64 0, .int .i64 0, .int .i64 0, .int .i64 0, .slice none 0 0]), (63, .iface 178 (Pp b99 0))] ?_
   refine gl_st (st_storeKA (vs := [.int .i64 0, .int .i64 0, .int .i64 0, .int .i64 0, .slice none 0 0]) 0 rfl rfl rfl hH rfl rfl (by kernel_rfl) (by kernel_rfl) rfl (by simp) [.int .i64 0, .int .i64 0, .int .i64 0, .int .i64 0, .slice none 0 0] rfl ?_)
   clear hH; intro w101 hH
   refine glo 1 [(2, Pp b3 0), (3, .iface 178 (Pp b99 0))] ?_
   refine gl_dn rfl ?_
   refine sw_ret ?_
   refine retC2 rfl (RS.cellA hH 0 (by kernel_rfl) rfl rfl (by kernel_rfl) [.int .i64 0, .int .i64 0, .int .i64 0, .int .i64 0, .slice none 0 0] rfl rfl) (RS.tmp rfl) ?_
   have hnone : readR p = none := by
    rw [readR_one hall, if_neg hk2, if_neg (fun h => by have := congrArg List.length h.2; simp only [List.length_nil] at this; omega)]
   exact .inl ⟨b99, hnone, rfl, (hH.sublist (slc (slc (slc (slc (slk sln)))))).fresh⟩
  refine glo 4 [(2, Pp b3 0), (4, Pp b5 0), (58, .bool false)] ?_
  refine gl_dn rfl ?_
  refine sw_false rfl rfl ?_
  refine sw_skip ?_
  refine sw_next ?_
  refine sw_exit ?_
  refine bkH ?_
  refine sw_next ?_
  refine sw_sr ?_
  refine glo 2 [(2, Pp b3 0), (60, .agg #[.int .i64 0, .int .i64 0, .int .i64 0, .int .i64 0, .slice none 0 0]), (61, .agg #[.int .i64 90, .int .i64 0])] ?_
  refine gl_st (st_boxH (cs := [.int .i64 90, .int .i64 0]) rfl rfl rfl rfl hH ?_)
  clear hH; intro b102 w103 hH
  refine glo 1 [(2, Pp b3 0), (60, .agg #[.int .i64 0, .int .i64 0, .int .i64 0, .int .i64 0, .slice none 0 0]), (63, .iface 178 (Pp b102 0))] ?_
  refine gl_st (st_storeKA (vs := [.int .i64 0, .int .i64 0, .int .i64 0, .int .i64 0, .slice none 0 0]) 0 rfl rfl rfl hH rfl rfl (by kernel_rfl) (by kernel_rfl) rfl (by simp) [.int .i64 0, .int .i64 0, .int .i64 0, .int .i64 0, .slice none 0 0] rfl ?_)
  clear hH; intro w104 hH
  refine glo 1 [(2, Pp b3 0), (3, .iface 178 (Pp b102 0))] ?_
  refine gl_dn rfl ?_
  refine sw_ret ?_
  refine retC2 rfl (RS.cellA hH 0 (by kernel_rfl) rfl rfl (by kernel_rfl) [.int .i64 0, .int .i64 0, .int .i64 0, .int .i64 0, .slice none 0 0] rfl rfl) (RS.tmp rfl) ?_
  have hnone : readR p = none := by
   exact readR_bad (fun h9 => Bool.noConfusion ((hz32.2 h9).symm.trans hg15))
  exact .inl ⟨b102, hnone, rfl, (hH.sublist (slc (slc (slc (slc (slk sln)))))).fresh⟩
 try simp only [beq_eq_false_iff_ne, ne_eq] at hc14
 refine sw_skip ?_
 refine sw_next ?_
 refine sw_exit ?_
 refine bkX rfl ?_
 refine thX ?_
 refine bkX rfl ?_
 refine thX ?_
 refine bkH ?_
 refine sw_next ?_
 refine sw_sr ?_
 refine glo 2 [(2, Pp b3 0), (60, .agg #[.int .i64 0, .int .i64 0, .int .i64 0, .int .i64 0, .slice none 0 0]), (61, .agg #[.int .i64 90, .int .i64 0])] ?_
 refine gl_st (st_boxH (cs := [.int .i64 90, .int .i64 0]) rfl rfl rfl rfl hH ?_)
 clear hH; intro b105 w106 hH
 refine glo 1 [(2, Pp b3 0), (60, .agg #[.int .i64 0, .int .i64 0, .int .i64 0, .int .i64 0, .slice none 0 0]), (63, .iface 178 (Pp b105 0))] ?_
 refine gl_st (st_storeKA (vs := [.int .i64 0, .int .i64 0, .int .i64 0, .int .i64 0, .slice none 0 0]) 0 rfl rfl rfl hH rfl rfl (by kernel_rfl) (by kernel_rfl) rfl (by simp) [.int .i64 0, .int .i64 0, .int .i64 0, .int .i64 0, .slice none 0 0] rfl ?_)
 clear hH; intro w107 hH
 refine glo 1 [(2, Pp b3 0), (3, .iface 178 (Pp b105 0))] ?_
 refine gl_dn rfl ?_
 refine sw_ret ?_
 refine retC2 rfl (RS.cellA hH 0 (by kernel_rfl) rfl rfl (by kernel_rfl) [.int .i64 0, .int .i64 0, .int .i64 0, .int .i64 0, .slice none 0 0] rfl rfl) (RS.tmp rfl) ?_
 have hnone : readR p = none := by
  refine Classical.byContradiction fun hx => ?_
  have hall := Classical.byContradiction fun h9 => hx (readR_bad h9)
  rw [readR_one hall, if_neg hk2, if_neg (by omega)] at hx
  exact hx rfl
 exact .inl ⟨b105, hnone, rfl, (hH.sublist (slc (slc (slc (slc (slk sln)))))).fresh⟩
end Go.Proofs.YtajapgjemefoiaaGreatDoor
/- Layer 19 (wal): slices.SortFunc over the parts, by their numbers: what it leaves. -/
set_option linter.unusedVariables false
set_option linter.unusedSimpArgs false
set_option maxRecDepth 100000
namespace Go.Proofs.YtajapgjemefoiaaGreatDoor
open Go Go.RowKit Go.SW Go.Sort
open Go.Lib (compareInt)
abbrev cfP (x y : PV) : Int := compareInt ((x.k : Nat) : Int) ((y.k : Nat) : Int)
theorem ltP (x y : PV) : ltOf cfP x y = decide (x.k < y.k) := by
  unfold ltOf cfP compareInt
  rw [Bool.eq_iff_iff, decide_eq_true_eq, decide_eq_true_eq]
  split
  · omega
  · split <;> omega
theorem swoP : SWO (ltOf cfP) where
  irrefl x := by rw [ltP]; simp
  trans x y z h1 h2 := by rw [ltP] at *; simp at *; omega
  ntrans x y z h1 h2 := by rw [ltP] at *; simp at *; omega
set_option maxHeartbeats 1000000 in
theorem closureP (x y : PV) (W : World) : Calls Tryz.prog 69 #[.agg (pvC x).toArray, .agg (pvC y).toArray] W fun e w' => e = .returned (.int .i64 (cfP x y)) ∧ ∃ q os', w' = grow (W.drewN q) os' := by
  have hcon := fun W' => Tryz.cmp_Compare_int ((x.k : Nat) : Int) ((y.k : Nat) : Int) W'
  unfold cfP
  generalize compareInt ((x.k : Nat) : Int) ((y.k : Nat) : Int) = r at hcon ⊢
  obtain ⟨k1, w1, m1, r1, A1, c1⟩ := x
  obtain ⟨k2, w2, m2, r2, A2, c2⟩ := y
  simp only [pvC, PV.v] at hcon ⊢
  go_enter Tryz.func69, Tryz.ntmps69
  go_wp2_with (go_at_call 70; refine (hcon _).mono ?_; rintro e w' ⟨rfl, rfl⟩)
  go_ret
  exact ⟨rfl, 0, _, by rw [alloc_eq_grow, alloc_eq_grow, grow_grow]; rfl⟩
theorem aggP (w : World) : (isAgg 106).run Tryz.prog w = .ok true w := by kernel_rfl
theorem sizeP4 (w : World) : (Go.sizeOf 106).run Tryz.prog w = .ok 4 w := by kernel_rfl
theorem flat_row (qs : List PV) : (flatK pvC 4 qs.toArray).toList = rowC pvC qs := by
  apply List.ext_getElem?
  intro t
  have hl : (rowC pvC qs).length = qs.length * 4 := rowC_len pvC_len qs
  by_cases ht : t < qs.length * 4
  · have hs : (flatK pvC 4 qs.toArray).size = qs.length * 4 := by simp
    have h1 : (flatK pvC 4 qs.toArray).toList[t]? = some ((flatK pvC 4 qs.toArray)[t]!) := by
      rw [Array.getElem?_toList, Array.getElem?_eq_getElem (by omega), getElem!_pos _ t (by omega)]
    rw [h1, get_flatK _ _ _ _ (by simpa using ht)]
    have hq : t / 4 < qs.length := by omega
    have h2 : qs.toArray[t / 4]! = qs[t / 4] := by rw [getElem!_pos _ _ (by simpa using hq)]; simp
    rw [h2]
    have h3 : (pvC qs[t / 4])[t % 4]? = some (pvC qs[t / 4])[t % 4]! := by
      rw [List.getElem?_eq_getElem (show t % 4 < (pvC qs[t / 4]).length by rw [pvC_len]; omega), getElem!_pos]
    have h4 := rowC_at pvC_len (List.getElem?_eq_getElem hq) (t % 4) (by omega) h3
    rw [show t / 4 * 4 + t % 4 = t by omega] at h4
    exact h4.symm
  · rw [List.getElem?_eq_none (by simp; omega), List.getElem?_eq_none (by omega)]
theorem put_take {b c : Array Value} {n : Nat} (hc : n ≤ c.size) (hb : b.size = n) : ((putCells id 0 b c).toList.take n) = b.toList := by
  apply List.ext_getElem?
  intro t
  rw [List.getElem?_take]
  by_cases ht : t < n
  · rw [if_pos ht]
    have h1 : t < c.size := by omega
    unfold putCells
    rw [Array.getElem?_toList, Array.getElem?_mapIdx, Array.getElem?_eq_getElem h1, Array.getElem?_toList, Array.getElem?_eq_getElem (by omega)]
    simp only [Option.map_some, Nat.zero_le, true_and, Nat.zero_add, Nat.sub_zero, id]
    rw [if_pos (by omega), getElem!_pos _ t (by omega)]
  · rw [if_neg ht, List.getElem?_eq_none (by simp; omega)]
set_option maxHeartbeats 1000000 in
theorem PartsSort_ct (v : Value) (qs : List PV) (w : World) (hM : Mine w [.row v 106 4 qs.length (rowC pvC qs)]) (hl : qs.length ≤ 1000000) :
    Fun Tryz.prog 68 [v, .func (.func 69) #[] #[]] w fun r w' => ∃ ds, r = .tuple #[] ∧ (ds.Perm qs ∧ ds.Pairwise fun a b => a.k ≤ b.k) ∧ Turn w w' [.row v 106 4 qs.length (rowC pvC qs)] [.row v 106 4 ds.length (rowC pvC ds)] := by
  have hr : w.ownsRow 0 106 4 v qs.length (rowC pvC qs) := hM.1 _ (List.mem_singleton.2 rfl)
  rcases hr.2 with ⟨rfl, h0⟩ | ⟨g, cap, cur, rfl, hb, hg, hn, hm, hs, ht⟩
  · obtain rfl := List.length_eq_zero_iff.1 h0
    refine Calls.mono (AnyF.slices_SortFunc_none ({ Tryz.sortPart with } : SlLaysF0.n6 Tryz.prog Tryz.sortPart_ren) none 0 (.func (.func 69) #[] #[]) w) ?_
    rintro e w' ⟨rfl, rfl⟩
    exact ⟨_, rfl, [], rfl, ⟨List.Perm.refl _, List.Pairwise.nil⟩, (Hp.start_mine hM).turned⟩
  have hlen := hr.1
  have hsz : (flatK pvC 4 qs.toArray).size = qs.length * 4 := by simp
  have hH0 : HoldsK pvC 4 w g 0 qs.toArray := by
    intro j hj
    rw [hsz] at hj
    have hc : w.heap[(⟨g, 0 + j, none⟩ : Addr).block]? = some (.cells cur 106 (0, 0)) := hg
    refine ⟨?_, ?_⟩
    · have h1 : cur.toList[j]? = (rowC pvC qs)[j]? := by rw [← ht, List.getElem?_take, if_pos hj]
      unfold World.cell?
      rw [hc]
      simp only [Option.isSome_none, Bool.false_eq_true, if_false, Nat.zero_add]
      rw [← Array.getElem?_toList, h1, ← flat_row, Array.getElem?_toList, Array.getElem?_eq_getElem (by omega), id, getElem!_pos _ j (by omega)]
    · unfold World.frozen?
      rw [hc]
      simp
  have hblk : g < w.heap.size := (Array.getElem?_eq_some_iff.1 hg).1
  have eg : ∀ args w, (callFunc 69 args).run Tryz.prog w = .ok (.enter 69 args) w := enters_of Tryz.func69 (by kernel_rfl) rfl
  have hcon := AnyQ.slices_SortFunc Tryz.sortPart 4 aggP sizeP4 pvC (fun _ => rfl) (fun x v hv => by simp [pvC] at hv; rcases hv with rfl | rfl | rfl | rfl <;> rfl) cfP swoP 69 #[] g 0 cap qs.toArray w eg (fun _ _ _ _ x y => closureP x y _) hH0 hblk (by simp; omega)
  rw [show qs.toArray.size = qs.length from by simp] at hcon
  refine Calls.mono hcon ?_
  rintro e w' ⟨rfl, d', n, os, ⟨hp1, _, hp2⟩, hsd, rfl⟩
  have hsize : d'.size = qs.length := by rw [hp1]; simp
  have hdl : d'.toList.length = qs.length := by simp [hsize]
  have he : (d'.extract 0 qs.length).toList = d'.toList := by rw [← hsize]; simp
  have he2 : (qs.toArray.extract 0 qs.length).toList = qs := by simp
  rw [he, he2] at hp2
  refine ⟨_, rfl, d'.toList, rfl, ⟨hp2, ?_⟩, ?_⟩
  · rw [List.pairwise_iff_getElem]
    intro i j hi hj hij
    have h1 := hsd i j (Nat.zero_le _) hij (by omega)
    rw [ltP, getElem!_pos _ i (by omega), getElem!_pos _ j (by omega)] at h1
    simpa using h1
  · have hfl : (flatK pvC 4 d').size = d'.size * 4 := by simp
    have hrow := flat_row d'.toList
    rw [Array.toArray_toList] at hrow
    have hheap : (sortWorldK pvC 4 w g 0 n d' os).heap = (w.heap.modify g (onCells (putCells id 0 (flatK pvC 4 d')))) ++ os := rfl
    have hg2 : (sortWorldK pvC 4 w g 0 n d' os).heap[g]? = some (.cells (putCells id 0 (flatK pvC 4 d') cur) 106 (0, 0)) := by
      rw [hheap, Array.getElem?_append_left (by simpa using hblk), Array.getElem?_modify, if_pos rfl, hg]; rfl
    have h0 : Hp w w (off w (blksOf [.row (.slice (some ⟨g, 0, none⟩) qs.length cap) 106 4 qs.length (rowC pvC qs)])) (blksOf [.row (.slice (some ⟨g, 0, none⟩) qs.length cap) 106 4 qs.length (rowC pvC qs)]) [.row (.slice (some ⟨g, 0, none⟩) qs.length cap) 106 4 qs.length (rowC pvC qs)] := Hp.start_mine hM
    refine (h0.turn (w' := sortWorldK pvC 4 w g 0 n d' os) 0 (o' := .row (.slice (some ⟨g, 0, none⟩) qs.length cap) 106 4 d'.toList.length (rowC pvC d'.toList)) rfl (some g) (fun x e => by cases e; simp [Own.row, Value.ownBlock]) ⟨rfl, rfl, rfl, ?_, fun k hk hne => ?_⟩ ?_ (fun x hx => .inl hx) (by simp [Own.row, Value.ownBlock])).turned
    · rw [hheap]; simp
    · rw [hheap, Array.getElem?_append_left (by simpa using hk), Array.getElem?_modify, if_neg (fun e => hne (by rw [e]))]
    · refine ⟨by rw [rowC_len pvC_len], .inr ⟨g, cap, _, by rw [hdl], hb, hg2, by omega, hm, by rw [← hs]; simp [putCells], ?_⟩⟩
      rw [hdl, ← hrow]
      exact put_take (by omega) (by omega)
end Go.Proofs.YtajapgjemefoiaaGreatDoor
/- Layer 19 (wal): a file's name; ContainsFunc over entries: what they answer. -/
set_option maxRecDepth 100000
set_option maxHeartbeats 1000000
set_option linter.unusedVariables false
set_option linter.unusedSimpArgs false
namespace Go.Proofs.YtajapgjemefoiaaGreatDoor
open Go.RowKit Go.SW
def TabW (w : World) : Prop := Lib.TabIs Tryz.prog w "internal/strconv.uint64pow10" .u64 Lib.pow10Tab
theorem tabP : Tryz.prog.globalNamed "internal/strconv.uint64pow10" = some 1 := by kernel_rfl
def KOk (w : World) (F : List Nat) (k : Nat) : Prop := k < 100 ∨ (TabW w ∧ 1 ∉ F ∧ 1 < w.heap.size)
theorem tab_keep {w w' : World} (h : TabW w) (e : w'.heap[1]? = w.heap[1]?) : TabW w' := by
  unfold TabW Lib.TabIs World.var? at *
  rw [tabP] at *
  simp only [Option.bind_some] at *
  rw [e]; exact h
theorem KOk.sub {w0 w : World} {z : Zone} {F : List Nat} {mine os : List Own} {k : Nat} (h : KOk w0 F k) (hH : Hp w0 w z F (mine ++ os)) : KOk w (blksOf mine) k := by
  rcases h with h | ⟨h1, h2, h3⟩
  · exact .inl h
  · refine .inr ⟨tab_keep h1 (hH.keep 1 h3 h2), fun hm => ?_, Nat.lt_of_lt_of_le h3 hH.size⟩
    rcases (hH.new 1 (by rw [blksOf_append]; exact List.mem_append_left _ hm)).1 with h4 | h4
    · omega
    · exact h2 h4
theorem KOk.now {w0 w : World} {z : Zone} {F : List Nat} {os : List Own} {k : Nat} (h : KOk w0 F k) (hH : Hp w0 w z F os) : k < 100 ∨ TabW w := by
  rcases h with h | ⟨h1, h2, h3⟩
  · exact .inl h
  · exact .inr (tab_keep h1 (hH.keep 1 h3 h2))
theorem fresh_grow (w : World) (k : Nat) (os : Array Obj) : Fresh w (Go.Sort.grow (w.drewN k) os) [] :=
  ⟨rfl, rfl, rfl, by simp [Go.Sort.grow, World.drewN], fun j hj _ => by
    show ((w.drewN k).heap ++ os)[j]? = _
    rw [Array.getElem?_append_left (by simpa using hj)]; rfl, fun a v h => by simp at h, by simp, by simp [blksOf], by simp [blksOf]⟩
theorem Itoa_ct (k : Nat) (w : World) (hk : k < 9223372036854775808) (hT : k < 100 ∨ TabW w) :
    Fun Tryz.prog 77 [.int .i64 ((k : Nat) : Int)] w fun v w' => v = .string (bs (decB k)) ∧ Fresh w w' [] := by
  rcases hT with h | h
  · refine Calls.mono (Tryz.strconv_Itoa_small k h w) ?_
    rintro e w' ⟨rfl, rfl⟩
    exact ⟨_, rfl, rfl, (Hp.start _).fresh⟩
  · refine Calls.mono (Tryz.strconv_Itoa ((k : Nat) : Int) (by omega) (by omega) w h) ?_
    rintro e w' ⟨rfl, n, os, rfl⟩
    exact ⟨_, rfl, by rw [Lib.itoa_nonneg]; rfl, fresh_grow w n os⟩

theorem Name_ct (k : Nat) (w : World) (hk : k < 9223372036854775808) (hT : k < 100 ∨ TabW w) :
    Fun Tryz.prog 45 [.int .i64 ((k : Nat) : Int)] w fun v w' => v = .string (bs (nameF k)) ∧ Fresh w w' [] := by
 have hdl : (decB k).length ≤ 21 := by
   rw [show (decB k).length = Lib.nDigits k from Lib.decDigits_length k]
   exact nDig_le 20 k (by omega)
 refine fun_of_sw Tryz.func45 rfl 6 rfl rfl ?_
 have hH := Hp.start w
 refine sw_sr ?_
 refine glo 1 [(0, Ni k)] ?_
 refine gl_dn rfl ?_
 refine sw_sr ?_
 refine glo 1 [(3, Ni k)] ?_
 refine gl_st (st_call rfl rfl rfl (by kernel_rfl) rfl (Itoa_ct k _ hk hT) ?_)
 rintro _ w1 ⟨rfl, hF2⟩
 replace hH := hH.call hF2; clear hF2
 refine gl_q rfl rfl rfl (rd_sadd (by kernel_rfl) rfl rfl (by simp only [List.length_cons, List.length_nil]; omega)) ?_
 refine glo 1 [(2, .string (bs ([108, 111, 103] ++ (decB k))))] ?_
 refine gl_dn rfl ?_
 refine sw_ret ?_
 refine ret1 rfl rfl  ?_
 exact ⟨rfl, hH.fresh⟩
theorem Long1_ct (ix tm kd : Int) (A : Option Addr) (n c : Nat) (w : World) :
    Fun Tryz.prog 50 [.agg #[.int .i64 ix, .int .i64 tm, .int .i64 kd, .slice A n c]] w fun v w' => v = .bool (decide (65536 < n)) ∧ Fresh w w' [] := by
 refine fun_of_sw Tryz.func50 rfl 7 rfl rfl ?_
 have hH := Hp.start w
 refine sw_sr ?_
 refine gl_st (st_boxH (cs := [.int .i64 ix, .int .i64 tm, .int .i64 kd, .slice A n c]) rfl rfl rfl rfl hH ?_)
 clear hH; intro b1 w2 hH
 refine glo 1 [(1, Pp b1 0)] ?_
 refine gl_dn rfl ?_
 refine sw_sr ?_
 refine glo 1 [(3, Pp b1 3)] ?_
 refine gl_q rfl rfl rfl (rd_loadK 0 (by kernel_rfl) hH rfl rfl rfl) ?_
 refine gl_q rfl rfl rfl (rd_len (e := 5) (by kernel_rfl) rfl) ?_
 refine glo 2 [(2, .bool (decide (((n : Nat) : Int) > (65536 : Int))))] ?_
 refine gl_dn rfl ?_
 refine sw_ret ?_
 refine ret1 rfl rfl  ?_
 exact ⟨by congr 1; rw [Bool.eq_iff_iff, decide_eq_true_eq, decide_eq_true_eq]; omega, (hH.sublist sln).fresh⟩
theorem any_no {qs : EI} (h : ∀ j : Nat, j < qs.length → ∀ q, qs[j]? = some q → ¬ 65536 < q.1.d.length) : (qs.map (·.1)).any (fun e => decide (65536 < e.d.length)) = false := by
  rw [List.any_eq_false]
  intro e he
  obtain ⟨q, hq, rfl⟩ := List.mem_map.1 he
  obtain ⟨j, hj⟩ := List.getElem?_of_mem hq
  simpa using h j (List.getElem?_eq_some_iff.1 hj).1 q hj
theorem any_yes {qs : EI} {j : Nat} {q : EA × Value} (hq : qs[j]? = some q) (h : 65536 < q.1.d.length) : (qs.map (·.1)).any (fun e => decide (65536 < e.d.length)) = true :=
  List.any_eq_true.2 ⟨q.1, List.mem_map.2 ⟨q, List.mem_of_getElem? hq, rfl⟩, decide_eq_true h⟩

theorem Index_ct (vx : Value) (qs : EI) (w : World) (hE : Row w.cell? vx 4 qs.length (rowC eiC qs)) (hD : ∀ q ∈ qs, RB w.cell? q.2 q.1.d) (hl : qs.length ≤ 1048576) :
    Fun Tryz.prog 81 [vx, .func (.func 50) #[] #[]] w fun v w' => ∃ x : Int, v = .int .i64 x ∧ ((0 ≤ x ∧ (qs.map (·.1)).any (fun e => decide (65536 < e.d.length)) = true) ∨ (x < 0 ∧ (qs.map (·.1)).any (fun e => decide (65536 < e.d.length)) = false)) ∧ Fresh w w' [] := by
 obtain ⟨Ax, cx, rfl, hx1, hx2⟩ := hE.form
 refine fun_of_sw Tryz.func81 rfl 19 rfl rfl ?_
 have hH := Hp.start w
 refine sw_sr ?_
 refine glo 1 [(0, .slice Ax qs.length cx), (1, .func (.func 50) #[] #[])] ?_
 refine gl_dn rfl ?_
 refine sw_seq ?_
 refine sw_sr ?_
 refine glo 1 [(0, .slice Ax qs.length cx), (1, .func (.func 50) #[] #[]), (6, .slice Ax qs.length cx)] ?_
 refine gl_q rfl rfl rfl (rd_len (e := 64) (by kernel_rfl) rfl) ?_
 refine glo 1 [(0, .slice Ax qs.length cx), (1, .func (.func 50) #[] #[]), (7, Ni qs.length), (8, .int .i64 0)] ?_
 refine gl_dn rfl ?_
 refine sw_block ?_
 refine sw_loop (γ := Nat) (fun i => [(0, .slice Ax qs.length cx), (1, .func (.func 50) #[] #[]), (7, Ni qs.length), (8, Ni i)]) (fun i w_ => (i ≤ qs.length) ∧ (∀ j : Nat, j < i → ∀ q, qs[j]? = some q → ¬ 65536 < q.1.d.length) ∧ Hp w w_ (w.cell?) [] []) (fun i => qs.length - i) (0) (Sub.of_eq (by kernel_rfl)) ?_ ?_
 · exact ⟨by omega, fun j hj => absurd hj (by omega), hH⟩
 clear hH
 rintro i w1 ⟨hi, hall, hH⟩
 refine swk [(0, .slice Ax qs.length cx), (1, .func (.func 50) #[] #[]), (7, Ni qs.length), (8, Ni i)] ?_
 refine sw_sr ?_
 refine glo 1 [(0, .slice Ax qs.length cx), (1, .func (.func 50) #[] #[]), (7, Ni qs.length), (8, Ni i), (9, .bool (decide (((i : Nat) : Int) < ((qs.length : Nat) : Int))))] ?_
 refine gl_dn rfl ?_
 refine sw_seq ?_
 refine sw_cond rfl rfl (fun hc1 => ?_) (fun hc1 => ?_)
 ·
  try simp only [decide_eq_true_eq] at hc1
  refine sw_skip ?_
  refine sw_next ?_
  refine sw_seq ?_
  refine sw_block ?_
  refine sw_sr ?_
  refine glo 2 [(0, .slice Ax qs.length cx), (1, .func (.func 50) #[] #[]), (5, Ni i), (7, Ni qs.length), (8, Ni i)] ?_
  refine gl_dn rfl ?_
  obtain ⟨⟨⟨ix, tm, kd, dq⟩, vq⟩, hq⟩ : ∃ x, qs[i]? = some x := ⟨_, List.getElem?_eq_getElem (by omega)⟩
  have kq : RB w.cell? vq dq := hD _ (List.mem_of_getElem? hq)
  obtain ⟨Ad, cd, rfl, _, _⟩ := kq.row.form
  refine sw_sr ?_
  obtain ⟨p2, hi4, hp3⟩ := hE.idx i (by omega) (by decide)
  refine glo 3 [(0, .slice Ax qs.length cx), (1, .func (.func 50) #[] #[]), (5, Ni i), (7, Ni qs.length), (8, Ni i), (11, .func (.func 50) #[] #[]), (12, .slice Ax qs.length cx), (13, Ni i)] ?_
  refine gl_q rfl rfl rfl (rd_idx (e := 64) (m := 4) (by kernel_rfl) (by kernel_rfl) rfl rfl hi4) ?_
  refine gl_q rfl rfl rfl (rd_loadZA (by kernel_rfl) hH hp3 rfl 0 rfl [.int .i64 ix, .int .i64 tm, .int .i64 kd, .slice Ad dq.length cd] (by kernel_rfl) (rowC_all eiC_len hq 0 _ rfl)) ?_
  refine gl_st (st_callv rfl rfl rfl (by kernel_rfl) rfl rfl (Long1_ct ix tm kd Ad dq.length cd _) ?_)
  rintro _ w5 ⟨rfl, hF6⟩
  replace hH := hH.call hF6; clear hF6
  refine gl_dn rfl ?_
  refine sw_cond rfl rfl (fun hc2 => ?_) (fun hc2 => ?_)
  ·
   try simp only [decide_eq_true_eq] at hc2
   have hyes := hc2
   refine sw_sr ?_
   refine glo 2 [(4, Ni i)] ?_
   refine gl_dn rfl ?_
   refine sw_ret ?_
   refine bkR ?_
   refine thR ?_
   refine thR ?_
   refine bkR ?_
   refine thR ?_
   refine ret1 rfl rfl  ?_
   exact ⟨_, rfl, .inl ⟨by omega, any_yes hq (by simp only; omega)⟩, (hH.sublist sln).fresh⟩
  try simp only [decide_eq_false_iff_not, Int.not_lt, Int.not_le] at hc2
  have hno : ¬ 65536 < dq.length := by omega
  refine sw_skip ?_
  refine bkN ?_
  refine sw_next ?_
  refine sw_region ?_
  refine glo 1 [(0, .slice Ax qs.length cx), (1, .func (.func 50) #[] #[]), (7, Ni qs.length), (18, .int .i64 (IntKind.i64.wrap (((i : Nat) : Int) + 1)))] ?_
  refine gl_cv 18 (Ni (i + 1)) (cv_i64 (by omega)) rfl ?_
  refine glo 1 [(0, .slice Ax qs.length cx), (1, .func (.func 50) #[] #[]), (7, Ni qs.length), (8, Ni (i + 1))] ?_
  refine gl_done rfl ?_
  refine rnd_end (g := (i)) (i + 1) (by kernel_rfl) ?_ ?_
  replace hH : Hp w w5 _ _ [] := (hH.sublist sln)
  · exact ⟨by omega, fun j hj q h9 => (Nat.lt_succ_iff_lt_or_eq.1 hj).elim (fun h => hall j h q h9) (fun h => by subst h; rw [hq] at h9; cases h9; exact hno), hH⟩
  · show qs.length - (i + 1) < qs.length - i; omega
 try simp only [decide_eq_false_iff_not, Int.not_lt, Int.not_le] at hc1
 refine sw_exit ?_
 refine thX ?_
 refine thX ?_
 refine bkH ?_
 refine sw_next ?_
 refine sw_sr ?_
 refine glo 1 [(4, .int .i64 (-1))] ?_
 refine gl_dn rfl ?_
 refine sw_ret ?_
 refine ret1 rfl rfl  ?_
 exact ⟨_, rfl, .inr ⟨by omega, any_no (fun j hj => hall j (by omega))⟩, (hH.sublist sln).fresh⟩
theorem Contains_ct (vx : Value) (qs : EI) (w : World) (hE : Row w.cell? vx 4 qs.length (rowC eiC qs)) (hD : ∀ q ∈ qs, RB w.cell? q.2 q.1.d) (hl : qs.length ≤ 1048576) :
    Fun Tryz.prog 49 [vx, .func (.func 50) #[] #[]] w fun v w' => v = .bool ((qs.map (·.1)).any (fun e => decide (65536 < e.d.length))) ∧ Fresh w w' [] := by
 obtain ⟨Ax, cx, rfl, hx1, hx2⟩ := hE.form
 refine fun_of_sw Tryz.func49 rfl 9 rfl rfl ?_
 have hH := Hp.start w
 refine sw_sr ?_
 refine glo 1 [(0, .slice Ax qs.length cx), (1, .func (.func 50) #[] #[])] ?_
 refine gl_dn rfl ?_
 refine sw_sr ?_
 refine glo 2 [(5, .slice Ax qs.length cx), (6, .func (.func 50) #[] #[])] ?_
 refine gl_st (st_call rfl rfl rfl (by kernel_rfl) rfl (Index_ct _ qs _ (hE.mono hH.zin) (fun q hq => (hD q hq).mono hH.zin) hl) ?_)
 rintro _ w1 ⟨x, rfl, hx, hF2⟩
 replace hH := hH.call hF2; clear hF2
 refine glo 2 [(4, .bool (decide ((x : Int) ≥ (0 : Int))))] ?_
 refine gl_dn rfl ?_
 refine sw_ret ?_
 refine ret1 rfl rfl  ?_
 rcases hx with ⟨h1, h2⟩ | ⟨h1, h2⟩
 · exact ⟨by rw [h2]; congr 1; rw [decide_eq_true_eq]; omega, hH.fresh⟩
 · exact ⟨by rw [h2]; congr 1; rw [decide_eq_false_iff_not]; omega, hH.fresh⟩
end Go.Proofs.YtajapgjemefoiaaGreatDoor
/- Layer 19 (wal): a log in memory: what it owns; an entry is put behind the others, what is said of the pool. Plain theorems over the walks. -/
set_option maxRecDepth 100000
set_option linter.unusedVariables false
namespace Go.Proofs.YtajapgjemefoiaaGreatDoor
open Go.RowKit Go.SW
abbrev lgO (g db : Nat) (c : Cn) (ve : Value) (fi lo : Int) (bad : Value) : Own := .blk g 96 [.pointer (some ⟨db, 0, none⟩), .int .i64 ((c.term : Nat) : Int), .int .i64 ((c.vote : Nat) : Int), .int .i64 ((c.ix : Nat) : Int), .int .i64 ((c.ah : Nat) : Int), ve, .int .i64 fi, .int .i64 lo, bad]
abbrev cnO (g : Nat) (te vo : Int) (c : Cn) (ve : Value) : Own := .blk g 94 [.int .i64 te, .int .i64 vo, .int .i64 ((c.ix : Nat) : Int), .int .i64 ((c.ah : Nat) : Int), ve]
/-- The entries of a content, as they lie in the pool. -/
structure CnR (pl : Pl) (c : Cn) (es : EQ) (ve : Value) : Prop where
  fst : es.map (·.1) = c.es
  row : Row (pz pl) ve 4 es.length (rowC enC es)
  ok : ∀ q ∈ es, EnOk (pz pl) q ∧ q.1.d.length ≤ 1048576
theorem CnR.mono {pl p2 : Pl} {c : Cn} {es : EQ} {ve : Value} (h : CnR pl c es ve) (hl : (pz pl).le (pz p2)) : CnR p2 c es ve :=
  ⟨h.fst, h.row.mono hl, fun q hq => ⟨⟨(h.ok q hq).1.d.mono hl, (h.ok q hq).1.ix, (h.ok q hq).1.tm, (h.ok q hq).1.kd⟩, (h.ok q hq).2⟩⟩
theorem CnR.len {pl : Pl} {c : Cn} {es : EQ} {ve : Value} (h : CnR pl c es ve) : es.length = c.es.length := by rw [← h.fst, List.length_map]
theorem CnR.env {pl : Pl} {c : Cn} {es : EQ} {ve : Value} (h : CnR pl c es ve) : EnV es := fun q hq => by
  obtain ⟨A, cap, e, _⟩ := (h.ok q hq).1.d.row.form
  exact ⟨A, _, cap, e⟩
theorem CnR.nil (pl : Pl) (c : Cn) (h : c.es = []) : CnR pl c [] (.slice none 0 0) := ⟨h.symm, Row.nil _ _, fun q hq => by cases hq⟩
theorem cnR_put {pl p2 : Pl} {c c2 : Cn} {es : EQ} {ve v2 vd2 : Value} {e : En} (h : CnR pl c es ve) (hl : (pz pl).le (pz p2)) (hp : putC c e = some c2) (hr : Row (pz p2) v2 4 (es.take (e.ix - c.ix - 1) ++ [(e, vd2)]).length (rowC enC (es.take (e.ix - c.ix - 1) ++ [(e, vd2)]))) (hd : RB (pz p2) vd2 e.d) (hdl : e.d.length ≤ 1048576)
    (h1 : e.ix < 9223372036854775808) (h2 : e.tm < 9223372036854775808) (h3 : e.kd < 9223372036854775808) : CnR p2 c2 (es.take (e.ix - c.ix - 1) ++ [(e, vd2)]) v2 := by
  unfold putC at hp
  split at hp
  · cases hp
  cases hp
  refine ⟨?_, hr, fun q hq => ?_⟩
  · rw [List.map_append, List.map_take, h.fst]; rfl
  · rcases List.mem_append.1 hq with hq | hq
    · exact (h.mono hl).ok q (List.mem_of_mem_take hq)
    · rw [List.mem_singleton.1 hq]
      exact ⟨⟨hd, h1, h2, h3⟩, hdl⟩
theorem put_pool {w w' : World} {B B' : Own} {pl : Pl} {v1 vd2 : Value} {e1 e2 : TypeId} {n : Nat} {xs : List Value} {d : List UInt8} (hM : Mine w [B, plO pl]) (ht : Turn w w' [B] [B', .row v1 e1 4 n xs, .row vd2 e2 1 d.length (bv d)]) :
    ∃ p2, (pz pl).le (pz p2) ∧ Row (pz p2) v1 4 n xs ∧ RB (pz p2) vd2 d ∧ Turn w w' [B, plO pl] [B', plO p2] := by
  have h0 : Hp w w (off w (blksOf [B, plO pl])) (blksOf [B, plO pl]) ([B] ++ [plO pl]) := Hp.start_mine hM
  have h1 := h0.turns ht
  have h2 : Hp w w' (off w (blksOf [B, plO pl])) (blksOf [B, plO pl]) [.row v1 e1 4 n xs, plO pl, B', .row vd2 e2 1 d.length (bv d)] := h1.pick [2, 0, 1, 3] (by kernel_rfl) rfl
  obtain ⟨q1, hr1, h3⟩ := pl_add h2
  have h4 : Hp w w' (off w (blksOf [B, plO pl])) (blksOf [B, plO pl]) [.row vd2 e2 1 d.length (bv d), plO (pl ++ q1), B'] := h3.pick [2, 0, 1] (by kernel_rfl) rfl
  obtain ⟨q2, hr2, h5⟩ := pl_add h4
  have h6 : Hp w w' (off w (blksOf [B, plO pl])) (blksOf [B, plO pl]) [B', plO (pl ++ q1 ++ q2)] := h5.pick [1, 0] (by kernel_rfl) rfl
  exact ⟨_, (pz_app pl q1).trans (pz_app _ q2), hr1.mono (pz_app _ q2), hr2, h6.turned⟩
theorem mine_head {w : World} {B : Own} {r : List Own} (h : Mine w (B :: r)) : Mine w [B] :=
  ⟨fun o ho => h.1 o (by rw [List.mem_singleton.1 ho]; exact List.mem_cons_self), h.2.sublist (blksOf_sublist (by simp))⟩
theorem off_mono (w : World) (a b : List Nat) (h : ∀ g ∈ a, g ∈ b) : (off w b).le (off w a) := by
  intro ad v hv
  unfold off at hv ⊢
  split at hv
  · cases hv
  · rename_i hn
    rw [if_neg (fun h2 => hn (h _ h2))]; exact hv
theorem off_head (w : World) (B : Own) (r : List Own) : (off w (blksOf (B :: r))).le (off w (blksOf [B])) := off_mono w _ _ fun g hg => by
  rw [blksOf_cons] at hg ⊢
  exact List.mem_append_left _ (by simpa [blksOf] using hg)
theorem pz_off1 {w : World} {B : Own} {pl : Pl} (h : Mine w [B, plO pl]) : (pz pl).le (off w (blksOf [B])) := by
  have h0 : Hp w w (off w (blksOf [B, plO pl])) (blksOf [B, plO pl]) ([B] ++ [plO pl]) := Hp.start_mine h
  exact pz_off h0 0 rfl
theorem keep_pool {w w' : World} {B B' : Own} {pl : Pl} (hM : Mine w [B, plO pl]) (ht : Turn w w' [B] [B']) : Turn w w' [B, plO pl] [B', plO pl] := by
  have h0 : Hp w w (off w (blksOf [B, plO pl])) (blksOf [B, plO pl]) ([B] ++ [plO pl]) := Hp.start_mine hM
  have h2 : Hp w w' (off w (blksOf [B, plO pl])) (blksOf [B, plO pl]) [B', plO pl] := (h0.turns ht).pick [1, 0] (by kernel_rfl) rfl
  exact h2.turned
def PutPost (B : Own) (B' : Value → Own) (c : Cn) (pl : Pl) (e : En) (w : World) (v : Value) (w' : World) : Prop :=
  (putC c e = none ∧ v = .bool false ∧ Turn w w' [B, plO pl] [B, plO pl]) ∨
    ∃ c2 es2 ve2 pl2, putC c e = some c2 ∧ v = .bool true ∧ CnR pl2 c2 es2 ve2 ∧ (pz pl).le (pz pl2) ∧ Turn w w' [B, plO pl] [B' ve2, plO pl2]
theorem PutP1_ct (g db : Nat) (c : Cn) (fi lo : Int) (bad ve vd : Value) (es : EQ) (e : En) (pl : Pl) (w : World) (hM : Mine w [lgO g db c ve fi lo bad, plO pl]) (hL : CnR pl c es ve) (hd : RB (off w (blksOf [lgO g db c ve fi lo bad, plO pl])) vd e.d)
    (hl : es.length ≤ 1000000) (hcx : c.ix + es.length < 9223372036854775808) (h1 : e.ix < 9223372036854775808) (h2 : e.tm < 9223372036854775808) (h3 : e.kd < 9223372036854775808) (hdl : e.d.length ≤ 1048576) :
    Fun Tryz.prog 48 [.pointer (some ⟨g, 1, none⟩), .agg #[.int .i64 ((e.ix : Nat) : Int), .int .i64 ((e.tm : Nat) : Int), .int .i64 ((e.kd : Nat) : Int), vd]] w fun v w' => PutPost (lgO g db c ve fi lo bad) (fun v2 => lgO g db c v2 fi lo bad) c pl e w v w' := by
  obtain ⟨ix, tm, kd, d⟩ := e
  simp only at hd h1 h2 h3 hdl ⊢
  refine (Put1_ct g c.ix ix tm kd c.term c.vote c.ah db fi lo bad ve vd es d w (mine_head hM) (hL.row.mono (pz_off1 hM)) hL.env (hd.mono (off_head _ _ _)) hl h1 hcx hdl).mono ?_
  have hlen := hL.len
  rintro v w' (⟨rfl, hn, ht⟩ | ⟨v1, vd2, rfl, hn, ht⟩)
  · refine .inl ⟨?_, rfl, keep_pool hM ht⟩
    unfold putC
    rw [if_pos (by simp only; omega)]
  · obtain ⟨p2, hle, hr, hd2, ht2⟩ := put_pool hM ht
    have hp : putC c ⟨ix, tm, kd, d⟩ = some { c with es := c.es.take (ix - c.ix - 1) ++ [⟨ix, tm, kd, d⟩] } := by
      unfold putC
      rw [if_neg (by simp only; omega)]
    exact .inr ⟨_, _, v1, p2, hp, rfl, cnR_put hL hle hp hr hd2 hdl h1 h2 h3, hle, ht2⟩
theorem PutP0_ct (g : Nat) (te vo : Int) (c : Cn) (ve vd : Value) (es : EQ) (e : En) (pl : Pl) (w : World) (hM : Mine w [cnO g te vo c ve, plO pl]) (hL : CnR pl c es ve) (hd : RB (off w (blksOf [cnO g te vo c ve, plO pl])) vd e.d)
    (hl : es.length ≤ 1000000) (hcx : c.ix + es.length < 9223372036854775808) (h1 : e.ix < 9223372036854775808) (h2 : e.tm < 9223372036854775808) (h3 : e.kd < 9223372036854775808) (hdl : e.d.length ≤ 1048576) :
    Fun Tryz.prog 48 [.pointer (some ⟨g, 0, none⟩), .agg #[.int .i64 ((e.ix : Nat) : Int), .int .i64 ((e.tm : Nat) : Int), .int .i64 ((e.kd : Nat) : Int), vd]] w fun v w' => PutPost (cnO g te vo c ve) (fun v2 => cnO g te vo c v2) c pl e w v w' := by
  obtain ⟨ix, tm, kd, d⟩ := e
  simp only at hd h1 h2 h3 hdl ⊢
  refine (Put0_ct g c.ix ix tm kd te vo c.ah ve vd es d w (mine_head hM) (hL.row.mono (pz_off1 hM)) hL.env (hd.mono (off_head _ _ _)) hl h1 hcx hdl).mono ?_
  have hlen := hL.len
  rintro v w' (⟨rfl, hn, ht⟩ | ⟨v1, vd2, rfl, hn, ht⟩)
  · refine .inl ⟨?_, rfl, keep_pool hM ht⟩
    unfold putC
    rw [if_pos (by simp only; omega)]
  · obtain ⟨p2, hle, hr, hd2, ht2⟩ := put_pool hM ht
    have hp : putC c ⟨ix, tm, kd, d⟩ = some { c with es := c.es.take (ix - c.ix - 1) ++ [⟨ix, tm, kd, d⟩] } := by
      unfold putC
      rw [if_neg (by simp only; omega)]
    exact .inr ⟨_, _, v1, p2, hp, rfl, cnR_put hL hle hp hr hd2 hdl h1 h2 h3, hle, ht2⟩
end Go.Proofs.YtajapgjemefoiaaGreatDoor
/- Layer 19 (wal): a record is done; a put of an entry that has no place at all: what they answer. -/
set_option maxRecDepth 100000
set_option maxHeartbeats 1000000
set_option linter.unusedVariables false
set_option linter.unusedSimpArgs false
namespace Go.Proofs.YtajapgjemefoiaaGreatDoor
open Go.RowKit Go.SW
def DoPost (g db : Nat) (c : Cn) (ve : Value) (fi lo : Int) (bad : Value) (pl : Pl) (r : Rc) (first : Bool) (w : World) (v : Value) (w' : World) : Prop :=
  ∃ bb o2, v = .bool bb ∧ ((doC c r first = none ∧ bb = false) ∨ (∃ c2 es2 ve2 pl2, doC c r first = some c2 ∧ bb = true ∧ CnR pl2 c2 es2 ve2 ∧ o2 = [lgO g db c2 ve2 fi lo bad, plO pl2])) ∧ Turn w w' [lgO g db c ve fi lo bad, plO pl] [.grp o2]
theorem do_one {g db : Nat} {c : Cn} {ve : Value} {fi lo : Int} {bad : Value} {pl : Pl} {k a b cc : Nat} {d : List UInt8} {first : Bool} {w w' : World} {v : Value} (hk : k = 2) (h : PutPost (lgO g db c ve fi lo bad) (fun v2 => lgO g db c v2 fi lo bad) c pl ⟨a, b, cc, d⟩ w v w') :
    DoPost g db c ve fi lo bad pl ⟨k, a, b, cc, d⟩ first w v w' := by
  have e : doC c ⟨k, a, b, cc, d⟩ first = putC c ⟨a, b, cc, d⟩ := by
    unfold doC
    rw [if_neg (by simp only; omega), if_pos hk]
  unfold DoPost
  rw [e]
  rcases h with ⟨h1, rfl, h3⟩ | ⟨c2, es2, ve2, pl2, h1, rfl, h4, h5, h6⟩
  · exact ⟨false, [], rfl, .inl ⟨h1, rfl⟩, Hp.close (l := []) (r := []) (Hp.sublist h3 (List.nil_sublist _))⟩
  · have e2 : lgO g db c ve2 fi lo bad = lgO g db c2 ve2 fi lo bad := by obtain ⟨_, _, rfl⟩ := putC_some h1; rfl
    refine ⟨true, _, rfl, .inr ⟨c2, es2, ve2, pl2, h1, rfl, h4, rfl⟩, Hp.close (r := []) ?_⟩
    rw [List.append_nil, ← e2]; exact h6
theorem do_ok {g db : Nat} {c c2 : Cn} {ve ve2 : Value} {fi lo : Int} {bad : Value} {pl pl2 : Pl} {es2 : EQ} {r : Rc} {first : Bool} {w w' : World} (h1 : doC c r first = some c2) (h4 : CnR pl2 c2 es2 ve2) (h6 : Turn w w' [lgO g db c ve fi lo bad, plO pl] [lgO g db c2 ve2 fi lo bad, plO pl2]) : DoPost g db c ve fi lo bad pl r first w (.bool true) w' :=
  ⟨true, _, rfl, .inr ⟨c2, es2, ve2, pl2, h1, rfl, h4, rfl⟩, Hp.close (r := []) (by rw [List.append_nil]; exact h6)⟩
theorem do_no {g db : Nat} {c : Cn} {ve : Value} {fi lo : Int} {bad : Value} {pl : Pl} {r : Rc} {first : Bool} {w w' : World} {os : List Own} (h1 : doC c r first = none) (h6 : Turn w w' [lgO g db c ve fi lo bad, plO pl] os) : DoPost g db c ve fi lo bad pl r first w (.bool false) w' :=
  ⟨false, [], rfl, .inl ⟨h1, rfl⟩, Hp.close (l := []) (r := []) (Hp.sublist h6 (List.nil_sublist _))⟩

theorem PutNeg_ct (g c0 : Nat) (ix tm kd : Int) (vd : Value) (w : World) (h2 : w.cell? ⟨g, 2, none⟩ = some (.int .i64 ((c0 : Nat) : Int))) (hn : ix < 0) (hs : ∃ A l c, vd = .slice A l c) :
    Fun Tryz.prog 48 [.pointer (some ⟨g, 0, none⟩), .agg #[.int .i64 ix, .int .i64 tm, .int .i64 kd, vd]] w fun v w' => v = .bool false ∧ Fresh w w' [] := by
 obtain ⟨Ad, ld, cd, rfl⟩ := hs
 refine fun_of_sw Tryz.func48 rfl 44 rfl rfl ?_
 have hH := Hp.start w
 refine sw_sr ?_
 refine gl_st (st_boxH (cs := [.int .i64 ix, .int .i64 tm, .int .i64 kd, .slice Ad ld cd]) rfl rfl rfl rfl hH ?_)
 clear hH; intro b1 w2 hH
 refine glo 1 [(0, .pointer (some ⟨g, 0, none⟩)), (3, Pp b1 0)] ?_
 refine gl_dn rfl ?_
 refine sw_seq ?_
 refine sw_seq ?_
 refine sw_draw (by kernel_rfl) (fun w_ => Hp w w_ (w.cell?) [] [.blk b1 64 [.int .i64 ix, .int .i64 tm, .int .i64 kd, .slice Ad ld cd]]) ?_
 replace hH := hH.drew
 generalize { w2 with drawn := w2.drawn + 1 } = w3 at hH ⊢
 have hS9 := hH.sublist (slk sln)
 refine gdo 1 [0] [(0, .pointer (some ⟨g, 0, none⟩)), (3, Pp b1 0), (5, Pp b1 0)] hS9 (PQ.th (PQ.th PQ.body)) ?_
 refine gdq 1 rfl (fun w_ hS => (rd_loadK 0 (by kernel_rfl) hS rfl rfl rfl)) hS9 (PQ.th (PQ.th PQ.body)) ?_
 refine gdo 3 [2,3,4] [(0, .pointer (some ⟨g, 0, none⟩)), (3, Pp b1 0), (6, .int .i64 ix), (9, .pointer (some ⟨g, 2, none⟩))] hS9 (PQ.th (PQ.th PQ.body)) ?_
 refine gdq 5 rfl (fun w_ hS => (rd_load (by kernel_rfl) rfl (hS.zin _ _ h2))) hS9 (PQ.th (PQ.th PQ.body)) ?_
 refine gdo 2 [6,7] [(0, .pointer (some ⟨g, 0, none⟩)), (3, Pp b1 0), (12, .bool (decide ((ix : Int) ≤ ((c0 : Nat) : Int))))] hS9 (PQ.th (PQ.th PQ.body)) ?_
 refine gd_split 12 (b := decide ((ix : Int) ≤ ((c0 : Nat) : Int))) rfl (fun hg1 => ?_) (fun hg1 => ?_)
 ·
  try simp only [decide_eq_true_eq] at hg1
  refine gdo 7 [8,9,10,11,12,13,14] [(0, .pointer (some ⟨g, 0, none⟩)), (3, Pp b1 0), (19, .bool true)] hS9 (PQ.th (PQ.th PQ.body)) ?_
  refine gdn [(0, .pointer (some ⟨g, 0, none⟩)), (3, Pp b1 0), (19, .bool true)] ?_
  refine sw_next ?_
  refine sw_true rfl rfl ?_
  refine sw_sr ?_
  refine glo 1 [(4, .bool false)] ?_
  refine gl_dn rfl ?_
  refine sw_ret ?_
  refine thR ?_
  refine ret1 rfl rfl  ?_
  exact ⟨rfl, (hH.sublist sln).fresh⟩
 ·
  try simp only [decide_eq_false_iff_not, Int.not_lt, Int.not_le] at hg1
  exfalso; omega
theorem Do_ct (g db : Nat) (c : Cn) (fi lo : Int) (bad ve vd : Value) (es : EQ) (pl : Pl) (k a b cc : Nat) (d : List UInt8) (first : Bool) (w : World) (hM : Mine w [lgO g db c ve fi lo bad, plO pl]) (hL : CnR pl c es ve) (hd : RB (off w (blksOf [lgO g db c ve fi lo bad, plO pl])) vd d) (hl : es.length ≤ 1000000) (hcx : c.ix + es.length < 9223372036854775808) (ha : a < 9223372036854775808) (hb : b < 9223372036854775808) (hcc : cc < 9223372036854775808) (hdl : d.length ≤ 1048576) :
    Fun Tryz.prog 72 [.pointer (some ⟨g, 1, none⟩), .agg #[.int .i64 ((k : Nat) : Int), .int .i64 ((a : Nat) : Int), .int .i64 ((b : Nat) : Int), .int .i64 ((cc : Nat) : Int), vd], .bool first] w fun v w' => DoPost g db c ve fi lo bad pl ⟨k, a, b, cc, d⟩ first w v w' := by
 obtain ⟨Ae, ce, rfl, he1, he2⟩ := hL.row.form
 obtain ⟨Ad, cd, rfl, hd1, hd2⟩ := hd.row.form
 refine fun_of_sw Tryz.func72 rfl 48 rfl rfl ?_
 have hH := Hp.start_mine hM
 refine sw_sr ?_
 refine gl_st (st_boxH (cs := [Ni k, Ni a, Ni b, Ni cc, .slice Ad d.length cd]) rfl rfl rfl rfl hH ?_)
 clear hH; intro b1 w2 hH
 refine glo 1 [(0, Pp g 1), (2, .bool first), (4, Pp b1 0)] ?_
 refine gl_dn rfl ?_
 refine sw_seq ?_
 refine sw_sr ?_
 refine glo 1 [(0, Pp g 1), (2, .bool first), (4, Pp b1 0), (7, Pp b1 0)] ?_
 refine gl_q rfl rfl rfl (rd_loadK 2 (by kernel_rfl) hH rfl rfl rfl) ?_
 refine gl_dn rfl ?_
 refine sw_block ?_
 refine sw_sr ?_
 refine glo 2 [(0, Pp g 1), (2, .bool first), (4, Pp b1 0), (8, Ni k), (23, .bool (((k : Nat) : Int) == (1 : Int)))] ?_
 refine gl_dn rfl ?_
 refine sw_cond rfl rfl (fun hc1 => ?_) (fun hc1 => ?_)
 ·
  try simp only [beq_iff_eq] at hc1
  have hk1 : k = 1 := by omega
  refine sw_draw (by kernel_rfl) (fun w_ => Hp w w_ (off w (blksOf [lgO g db c (.slice Ae es.length ce) fi lo bad, plO pl])) (blksOf [lgO g db c (.slice Ae es.length ce) fi lo bad, plO pl]) [plO pl, .blk b1 113 [Ni k, Ni a, Ni b, Ni cc, .slice Ad d.length cd]]) ?_
  replace hH := hH.drew
  generalize { w2 with drawn := w2.drawn + 1 } = w3 at hH ⊢
  have hS9 := hH.sublist (slc (slk (slk sln)))
  refine gdo 3 [0,1,2] [(4, Pp b1 0), (25, Pp g 1), (26, Pp g 1), (27, Pp b1 1)] hS9 (PQ.bk (PQ.th PQ.body)) ?_
  refine gdq 3 rfl (fun w_ hS => (rd_loadK 1 (by kernel_rfl) hS rfl rfl rfl)) hS9 (PQ.bk (PQ.th PQ.body)) ?_
  refine gdo 1 [4] [(25, Pp g 1), (26, Pp g 1), (28, Ni a), (29, Pp b1 2)] hS9 (PQ.bk (PQ.th PQ.body)) ?_
  refine gdq 5 rfl (fun w_ hS => (rd_loadK 1 (by kernel_rfl) hS rfl rfl rfl)) hS9 (PQ.bk (PQ.th PQ.body)) ?_
  refine gdo 2 [6,7] [(26, Pp g 1), (28, Ni a), (30, Ni b), (32, Pp g 1)] hS9 (PQ.bk (PQ.th PQ.body)) ?_
  refine gds 8 (st_storeK (v := Ni a) 0 rfl rfl rfl hH rfl rfl rfl (by kernel_rfl) rfl (by simp) ?_)
  clear hH; intro w4 hH
  replace hS9 := hH.sublist (slc (slk (slk sln)))
  refine ⟨hS9, ?_⟩
  refine gdo 2 [9,10] [(30, Ni b), (34, Pp g 2)] hS9 (PQ.bk (PQ.th PQ.body)) ?_
  refine gds 11 (st_storeK (v := Ni b) 0 rfl rfl rfl hH rfl rfl rfl (by kernel_rfl) rfl (by simp) ?_)
  clear hH; intro w5 hH
  replace hS9 := hH.sublist (slc (slk (slk sln)))
  refine ⟨hS9, ?_⟩
  refine gdn [] ?_
  refine bkN ?_
  refine sw_next ?_
  refine sw_sr ?_
  refine glo 1 [(6, .bool true)] ?_
  refine gl_dn rfl ?_
  refine sw_ret ?_
  refine ret1 rfl rfl  ?_
  replace hH : Hp w w5 _ _ [_, _] := (hH.sublist (slk (slk sln)))
  exact do_ok (c2 := { c with term := a, vote := b }) (by unfold doC; rw [if_pos hk1]) ⟨hL.fst, hL.row, hL.ok⟩ hH.turned
 try simp only [beq_eq_false_iff_ne, ne_eq] at hc1
 have hk1 : ¬ k = 1 := by omega
 refine sw_sr ?_
 refine glo 2 [(0, Pp g 1), (2, .bool first), (4, Pp b1 0), (35, .bool (((k : Nat) : Int) == (2 : Int)))] ?_
 refine gl_dn rfl ?_
 refine sw_cond rfl rfl (fun hc2 => ?_) (fun hc2 => ?_)
 ·
  try simp only [beq_iff_eq] at hc2
  have hk2 : k = 2 := by omega
  refine sw_sr ?_
  refine glo 2 [(4, Pp b1 0), (37, Pp g 1), (38, Pp b1 1)] ?_
  refine gl_q rfl rfl rfl (rd_loadK 2 (by kernel_rfl) hH rfl rfl rfl) ?_
  refine glo 1 [(4, Pp b1 0), (37, Pp g 1), (39, Ni a), (40, Pp b1 2)] ?_
  refine gl_q rfl rfl rfl (rd_loadK 2 (by kernel_rfl) hH rfl rfl rfl) ?_
  refine glo 1 [(4, Pp b1 0), (37, Pp g 1), (39, Ni a), (41, Ni b), (42, Pp b1 3)] ?_
  refine gl_q rfl rfl rfl (rd_loadK 2 (by kernel_rfl) hH rfl rfl rfl) ?_
  refine glo 1 [(37, Pp g 1), (39, Ni a), (41, Ni b), (43, Ni cc), (44, Pp b1 4)] ?_
  refine gl_q rfl rfl rfl (rd_loadK 2 (by kernel_rfl) hH rfl rfl rfl) ?_
  refine glo 1 [(37, Pp g 1), (46, .agg #[Ni a, Ni b, Ni cc, .slice Ad d.length cd])] ?_
  replace hH : Hp w w2 _ _ ([_, _] ++ [_]) := hH
  refine gl_st (st_call rfl rfl rfl (by kernel_rfl) rfl (by have h9 := PutP1_ct g db c fi lo bad _ _ es ⟨a, b, cc, d⟩ pl _ hH.mine hL (hd.mono hH.zoff) hl hcx ha hb hcc hdl; exact h9.mono fun v w1 h => do_one (first := first) hk2 h) ?_)
  rintro _ w6 ⟨bb, o2, rfl, hor, hF7⟩
  replace hH := hH.turns hF7; clear hF7
  replace hH : Hp w w6 _ _ [_, _] := hH
  refine glo 1 [(6, .bool bb)] ?_
  refine gl_dn rfl ?_
  refine sw_ret ?_
  refine bkR ?_
  refine thR ?_
  refine ret1 rfl rfl  ?_
  replace hH := hH.fr2
  replace hH : Hp w w6 _ _ [_] := (hH.sublist (slk sln))
  exact ⟨bb, o2, rfl, hor, hH.turned⟩
 try simp only [beq_eq_false_iff_ne, ne_eq] at hc2
 have hk2 : ¬ k = 2 := by omega
 refine sw_seq ?_
 refine sw_draw (by kernel_rfl) (fun w_ => Hp w w_ (off w (blksOf [lgO g db c (.slice Ae es.length ce) fi lo bad, plO pl])) (blksOf [lgO g db c (.slice Ae es.length ce) fi lo bad, plO pl]) [plO pl, .blk b1 113 [Ni k, Ni a, Ni b, Ni cc, .slice Ad d.length cd]]) ?_
 replace hH := hH.drew
 generalize { w2 with drawn := w2.drawn + 1 } = w8 at hH ⊢
 have hS9 := hH.sublist (slc (slk (slk sln)))
 refine gdo 4 [0,1,2,3] [(2, .bool first), (4, Pp b1 0), (9, Pp g 1), (10, Pp g 1), (11, Pp g 1), (12, Pp b1 1)] hS9 (PQ.th (PQ.bk (PQ.th PQ.body))) ?_
 refine gdq 4 rfl (fun w_ hS => (rd_loadK 1 (by kernel_rfl) hS rfl rfl rfl)) hS9 (PQ.th (PQ.bk (PQ.th PQ.body))) ?_
 refine gdo 1 [5] [(2, .bool first), (9, Pp g 1), (10, Pp g 1), (11, Pp g 1), (13, Ni a), (14, Pp b1 2)] hS9 (PQ.th (PQ.bk (PQ.th PQ.body))) ?_
 refine gdq 6 rfl (fun w_ hS => (rd_loadK 1 (by kernel_rfl) hS rfl rfl rfl)) hS9 (PQ.th (PQ.bk (PQ.th PQ.body))) ?_
 refine gdo 2 [7,8] [(2, .bool first), (10, Pp g 1), (11, Pp g 1), (13, Ni a), (15, Ni b), (17, Pp g 3)] hS9 (PQ.th (PQ.bk (PQ.th PQ.body))) ?_
 refine gds 9 (st_storeK (v := Ni a) 0 rfl rfl rfl hH rfl rfl rfl (by kernel_rfl) rfl (by simp) ?_)
 clear hH; intro w9 hH
 replace hS9 := hH.sublist (slc (slk (slk sln)))
 refine ⟨hS9, ?_⟩
 refine gdo 2 [10,11] [(2, .bool first), (11, Pp g 1), (15, Ni b), (19, Pp g 4)] hS9 (PQ.th (PQ.bk (PQ.th PQ.body))) ?_
 refine gds 12 (st_storeK (v := Ni b) 0 rfl rfl rfl hH rfl rfl rfl (by kernel_rfl) rfl (by simp) ?_)
 clear hH; intro w10 hH
 replace hS9 := hH.sublist (slc (slk (slk sln)))
 refine ⟨hS9, ?_⟩
 refine gdo 2 [13,14] [(2, .bool first), (21, Pp g 5)] hS9 (PQ.th (PQ.bk (PQ.th PQ.body))) ?_
 refine gds 15 (st_storeK (v := .slice none 0 0) 0 rfl rfl rfl hH rfl rfl rfl (by kernel_rfl) rfl (by simp) ?_)
 clear hH; intro w11 hH
 replace hS9 := hH.sublist (slc (slk (slk sln)))
 refine ⟨hS9, ?_⟩
 refine gdn [(2, .bool first)] ?_
 refine sw_next ?_
 refine sw_sr ?_
 refine glo 2 [(6, .bool first)] ?_
 refine gl_dn rfl ?_
 refine sw_ret ?_
 refine bkR ?_
 refine thR ?_
 refine ret1 rfl rfl  ?_
 replace hH : Hp w w11 _ _ [_, _] := (hH.sublist (slk (slk sln)))
 cases first with
 | false => exact do_no (by unfold doC; rw [if_neg hk1, if_neg hk2, if_neg (by decide)]) hH.turned
 | true => exact do_ok (c2 := { c with ix := a, ah := b, es := [] }) (by unfold doC; rw [if_neg hk1, if_neg hk2, if_pos rfl]) (CnR.nil pl _ rfl) hH.turned
end Go.Proofs.YtajapgjemefoiaaGreatDoor
